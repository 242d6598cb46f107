/- A range over a function whose iterator writes memory of its own and yields what lies in memory: as in the text on SeqX, but a yield is asked for what St and Dy tell. -/
import Derived.Test.YtihmjejcikpibaaDoorRfx
import Derived.Test.YtihmjejcikpibaaDoorKc
namespace Go.Proofs.YtihmjejcikpibaaDoor
open Go.RowKit
set_option linter.unusedVariables false
set_option linter.unusedSimpArgs false
set_option maxRecDepth 100000
/-- An invariant that leaves the iterator its own blocks of some types, and those that it lays. -/
def FitsT {β : Type} (T : List TypeId) (J : (Nat → Prop) → β → World → Prop) : Prop := ∀ X s A B, J X s A → XG X A B → KC T A B → J (xNew X A B) s B
theorem Fits.ofT {β : Type} {J : (Nat → Prop) → β → World → Prop} (T : List TypeId) (h : Fits J) : FitsT T J := fun X s A B hj hx _ => h X s A B hj hx
/-- The contract of an iterator that may write blocks of its own between two rounds, and may be stopped. -/
def SeqY {α : Type} (Ti : List TypeId) (P : Program) (g : Nat) (lb : Array Value) (encs : α → Array Value) (Kp : World → World → Prop) (S Sp : List α → Prop) (St : List α → Prop) (Dy : α → World → Prop) (w : World) : Prop :=
  ∀ (n l : Nat) (J Jx : (Nat → Prop) → List α → World → Prop) (W : World), Below w.heap.size w W → FitsT Ti J → FitsT Ti Jx →
    (∀ X pre x W1, J X pre W1 → St (pre ++ [x]) → Dy x W1 → ∀ m, YieldAt Fence.wide m P l (encs x) W1 fun e W' =>
      (e = .returned (.bool true) ∧ J X (pre ++ [x]) W' ∧ Kp W1 W' ∧ ∀ k, X k → W'.heap[k]? = W1.heap[k]?) ∨ (e = .returned (.bool false) ∧ Jx X (pre ++ [x]) W' ∧ Kp W1 W' ∧ ∀ k, X k → W'.heap[k]? = W1.heap[k]?)) →
    J (fun _ => False) [] W →
    CallsIn Fence.wide n P g (#[.func (.yield l) #[] #[]] ++ lb) W fun e W' => (∃ v, e = .returned v) ∧ ((∃ xs X, S xs ∧ J X xs W') ∨ (∃ pre X, Sp pre ∧ Jx X pre W'))
/-- The loop over such an iterator: one walk of the body, from the caller's invariant to itself. -/
theorem rangeFunc_y {α : Type} {Ti : List TypeId} {P : Program} {n : Nat} {g : Operand} {ps : Array Tmp} {assign body : Code} {Q : Exit → Act → World → Prop} {a : Act} {w : World}
    (h1 : 1 ≤ n) {gf : Nat} {lb : Array Value} (hg : a.eval g = .func (.func gf) #[] lb) (eg : ∀ args w, (callFunc gf args).run P w = .ok (.enter gf args) w)
    {encs : α → Array Value} {Kp : World → World → Prop} {S Sp : List α → Prop} {St : List α → Prop} {Dy : α → World → Prop} {w0 : World} (hseq : SeqY Ti P gf lb encs Kp S Sp St Dy w0)
    (hKt : ∀ {A B C : World}, Kp A B → Kp B C → Kp A C) (hKb : ∀ (W : World) (l : Nat) (o o' : Obj), w.heap.size ≤ l → W.heap[l]? = some o → o.isCells = false → o.isWalk = false → Kp W (W.putObj l o')) (hb0 : Below w0.heap.size w0 w) (hps : ∀ x, (encs x).size = ps.size)
    (I : (Nat → Prop) → List α → World → Prop) (Ix : Code → (Nat → Prop) → List α → World → Prop) (hI : FitsT Ti I) (hIx : ∀ c, FitsT Ti (Ix c)) (hIo : ∀ X, OwnFrom w.heap.size (I X)) (hIxo : ∀ c X, OwnFrom w.heap.size (Ix c X)) (h0 : I (fun _ => False) [] w)
    (Ax : α → Act → World → Prop) (hAx : ∀ x a', OwnFrom w.heap.size (fun (_ : Unit) W => Ax x a' W))
    (hassign : ∀ (l : Nat) (X : Nat → Prop) (pre : List α) (x : α) (W : World) (K : Act → World → Prop), I X pre W → St (pre ++ [x]) → Dy x W → (∀ a' W', KeepsFrom w.heap.size W W' → Kp W W' → (∀ k, X k → W'.heap[k]? = W.heap[k]?) → I X pre W' → Ax x a' W' → K a' W') →
      assign.wpIn (Fence.wide.inRound l) (n - 1 - 1) P (Exit.then K (fun _ _ _ => False)) { tmps := (ps.zip (encs x)).foldl (fun t (p, v) => t.setIfInBounds p v) a.tmps, defers := [] } W)
    (hbody : ∀ (l : Nat) (X : Nat → Prop) (pre : List α) (x : α) (a' : Act) (W : World), w.heap.size ≤ l → (∃ r, W.heap[l]? = some (.loop r)) → I X pre W → Ax x a' W → St (pre ++ [x]) → body.wpIn (Fence.wide.inRound l) (n - 1 - 1) P (postX w.heap.size Kp X I Ix (pre ++ [x]) W) a' W)
    (hdone : ∀ (D : Nat) (X : Nat → Prop) (xs : List α) (W : World), w.heap.size ≤ D → S xs → I X xs W → W.heap[D]? = some (.deferred (some [])) → Q .normal { a with defers := { target := .collected D, args := #[] } :: a.defers } W)
    (hstop : ∀ (D : Nat) (c : Code) (X : Nat → Prop) (pre : List α) (W : World), w.heap.size ≤ D → Sp pre → Ix c X pre W → W.heap[D]? = some (.deferred (some [])) → c.wpIn Fence.wide n P Q { a with defers := { target := .collected D, args := #[] } :: a.defers } W) :
    (Code.rangeFunc g ps assign body).wpIn Fence.wide n P Q a w := by
  refine wpIn_rangeFunc fun fn hfn => ?_
  rw [show Fence.wide.round = none from rfl]
  obtain ⟨rec, hrec⟩ : ∃ rec : LoopState → Option Code → Loop, rec = fun st pe => { state := st, pending := pe, fn, tmps := a.tmps, params := ps, assign, body, defers := w.heap.size } := ⟨_, rfl⟩
  obtain ⟨V, hV⟩ : ∃ V, (w.alloc (.deferred (some []))).alloc (.loop (rec .ready none)) = V := ⟨_, rfl⟩
  have hVs : V.heap.size = w.heap.size + 2 := by rw [← hV]; simp
  have hVb : Below w.heap.size w V := by rw [← hV]; exact ((Below.refl _ w).alloc (Nat.le_refl _) _).alloc (by simp) _
  have hL : V.heap[w.heap.size + 1]? = some (.loop (rec .ready none)) := by
    rw [← hV]; have := World.alloc_heap_new (w.alloc (.deferred (some []))) (.loop (rec .ready none)); rwa [World.size_alloc] at this
  have hD : V.heap[w.heap.size]? = some (.deferred (some [])) := by
    rw [← hV]; exact (Below.heap_alloc _ _ _ (by simp)).trans (World.alloc_heap_new w _)
  have hIV : I (fun _ => False) [] V := by rw [← hV]; exact (hIo _).alloc _ ((hIo _).alloc _ h0)
  refine ⟨w.heap.size + 1, [{ target := .collected w.heap.size, args := #[] }], V, { target := .fn (.func gf) lb, args := #[.func (.yield (w.heap.size + 1)) #[] #[]] }, V, gf,
    #[.func (.yield (w.heap.size + 1)) #[] #[]] ++ lb, V, ?_, ?_, ?_, ?_, fun _ => h1, ?_⟩
  · rw [← hV, hrec]; exact run_enterLoop_outer _ _ _ _ _
  · simp only [resolve, hg]
    simp [go_sem]
  · intro f' hf'; trivial
  · simp [invoke, go_sem, eg]
  refine (hseq (n - 1) (w.heap.size + 1)
    (fun X pre W => I X pre W ∧ W.heap[w.heap.size + 1]? = some (.loop (rec .ready none)) ∧ W.heap[w.heap.size]? = some (.deferred (some [])) ∧ ∀ k, X k → w.heap.size + 2 ≤ k)
    (fun X pre W => ∃ c, Ix c X pre W ∧ W.heap[w.heap.size + 1]? = some (.loop (rec .done (some c))) ∧ W.heap[w.heap.size]? = some (.deferred (some [])) ∧ ∀ k, X k → w.heap.size + 2 ≤ k)
    V (hb0.trans (hVb.mono hb0.size)) ?_ ?_ ?_ ⟨hIV, hL, hD, fun _ h => h.elim⟩).mono ?_
  · rintro X s A B ⟨k1, k2, k3, k4⟩ hx hkc
    have hA := (Array.getElem?_eq_some_iff.1 k2).1
    exact ⟨hI X s A B k1 hx hkc, (hx.block _ hA (fun h => by have := k4 _ h; omega)).trans k2, (hx.block _ (by omega) (fun h => by have := k4 _ h; omega)).trans k3, fun k h => by rcases h with h | h; exact k4 k h; omega⟩
  · rintro X s A B ⟨c, k1, k2, k3, k4⟩ hx hkc
    have hA := (Array.getElem?_eq_some_iff.1 k2).1
    exact ⟨c, hIx c X s A B k1 hx hkc, (hx.block _ hA (fun h => by have := k4 _ h; omega)).trans k2, (hx.block _ (by omega) (fun h => by have := k4 _ h; omega)).trans k3, fun k h => by rcases h with h | h; exact k4 k h; omega⟩
  · rintro X pre x W ⟨k1, k2, k3, k4⟩ hlen hdy m
    have hy := run_yield (P := P) (args := encs x) k2 (by rw [hrec]; exact hps x)
    rw [hrec] at hy
    refine ⟨fn, _, assign, body, hy, round_any (roundIn_of_wpIn hfn (hassign _ X pre x W _ k1 hlen hdy ?_))⟩
    intro a' Wa ha1 ha2 ha3 ha4 ha5
    have la := ha1.same _ _ (by omega) k2 rfl
    have da := ha1.same _ _ (Nat.le_refl _) k3 rfl
    have lt := (Array.getElem?_eq_some_iff.1 la).1
    refine ⟨_, run_beginRound la (by rw [hrec]), ?_⟩
    obtain ⟨busy, hbusy⟩ : ∃ busy : Obj, busy = .loop { rec .ready none with state := .busy } := ⟨_, rfl⟩
    rw [← hbusy]
    have lb2 : (Wa.putObj (w.heap.size + 1) busy).heap[w.heap.size + 1]? = some busy := World.putObj_heap_same lt
    have db2 : (Wa.putObj (w.heap.size + 1) busy).heap[w.heap.size]? = some (.deferred (some [])) := (World.putObj_heap_other (by omega)).trans da
    have hx2 : ∀ k, X k → (Wa.putObj (w.heap.size + 1) busy).heap[k]? = W.heap[k]? := fun k h => (World.putObj_heap_other (by have := k4 k h; omega)).trans (ha3 k h)
    have kp2 : Kp W (Wa.putObj (w.heap.size + 1) busy) := hKt ha2 (hKb _ _ _ _ (by omega) la rfl rfl)
    refine wpIn_mono (hbody _ X pre x a' _ (by omega) ⟨_, by rw [lb2, hbusy]⟩ ((hIo X).putObj _ ha4 (by omega) la rfl) ((hAx x a').putObj (s := ()) _ ha5 (by omega) la rfl) hlen) ?_
    have close : ∀ (jump : Option Code) (W3 : World), KeepsFrom w.heap.size (Wa.putObj (w.heap.size + 1) busy) W3 → Kp (Wa.putObj (w.heap.size + 1) busy) W3 → (∀ k, X k → W3.heap[k]? = (Wa.putObj (w.heap.size + 1) busy).heap[k]?) →
        ∃ o : Obj, W3.heap[w.heap.size + 1]? = some o ∧ o.isCells = false ∧
        (Instr.endRound (w.heap.size + 1) jump).run P W3 = .ok (.bool jump.isNone) (W3.putObj (w.heap.size + 1) (.loop (rec (if jump.isNone then .ready else .done) jump))) ∧
        (W3.putObj (w.heap.size + 1) (.loop (rec (if jump.isNone then .ready else .done) jump))).heap[w.heap.size + 1]? = some (.loop (rec (if jump.isNone then .ready else .done) jump)) ∧
        (W3.putObj (w.heap.size + 1) (.loop (rec (if jump.isNone then .ready else .done) jump))).heap[w.heap.size]? = some (.deferred (some [])) ∧
        Kp W (W3.putObj (w.heap.size + 1) (.loop (rec (if jump.isNone then .ready else .done) jump))) ∧
        (∀ k, X k → (W3.putObj (w.heap.size + 1) (.loop (rec (if jump.isNone then .ready else .done) jump))).heap[k]? = W.heap[k]?) := by
      intro jump W3 q1 q2 q3
      have l3 : W3.heap[w.heap.size + 1]? = some busy := q1.same _ _ (by omega) lb2 (by rw [hbusy]; rfl)
      have d3 := q1.same _ _ (Nat.le_refl _) db2 rfl
      have lt3 := (Array.getElem?_eq_some_iff.1 l3).1
      have hr : (Instr.endRound (w.heap.size + 1) jump).run P W3 = .ok (.bool jump.isNone) (W3.putObj (w.heap.size + 1) (.loop (rec (if jump.isNone then .ready else .done) jump))) := by
        have l4 := l3
        rw [hbusy] at l4
        have := run_endRound (P := P) jump l4
        rw [hrec] at this ⊢
        exact this
      refine ⟨busy, l3, by rw [hbusy]; rfl, hr, World.putObj_heap_same lt3, (World.putObj_heap_other (by omega)).trans d3, hKt (hKt kp2 q2) (hKb _ _ _ _ (by omega) l3 (by rw [hbusy]; rfl) (by rw [hbusy]; rfl)), fun k h => ?_⟩
      exact (World.putObj_heap_other (by have := k4 k h; omega)).trans ((q3 k h).trans (hx2 k h))
    rintro e a3 W3 hp
    cases e with
    | normal =>
      obtain ⟨q1, q2, q3, q4⟩ := hp
      obtain ⟨o, l3, oc, hr, l4, d4, kp4, x4⟩ := close none W3 q1 q2 q3
      exact ⟨_, _, hr, .inl ⟨rfl, ⟨(hIo X).putObj _ q4 (by omega) l3 oc, l4, d4, k4⟩, kp4, x4⟩⟩
    | ret =>
      obtain ⟨q1, q2, q3, q4⟩ := hp
      obtain ⟨o, l3, oc, hr, l4, d4, kp4, x4⟩ := close (some .ret) W3 q1 q2 q3
      exact ⟨_, _, hr, .inr ⟨rfl, ⟨.ret, (hIxo _ X).putObj _ q4 (by omega) l3 oc, l4, d4, k4⟩, kp4, x4⟩⟩
    | exit id =>
      obtain ⟨q1, q2, q3, q4⟩ := hp
      obtain ⟨o, l3, oc, hr, l4, d4, kp4, x4⟩ := close (some (.exit id)) W3 q1 q2 q3
      exact ⟨_, _, hr, .inr ⟨rfl, ⟨.exit id, (hIxo _ X).putObj _ q4 (by omega) l3 oc, l4, d4, k4⟩, kp4, x4⟩⟩
    | goto t => exact hp.elim
    | panic ch => exact hp.elim
    | outgrown => exact hp.elim
  · rintro e W2 ⟨⟨v, rfl⟩, ⟨xs, X, hS, k1, k2, k3, k4⟩ | ⟨pre, X, hSp, c, k1, k2, k3, k4⟩⟩
    · exact ⟨none, _, by have := run_endLoop (P := P) k2 (by rw [hrec]; simp); rw [hrec] at this; exact this, hdone _ X xs _ (Nat.le_refl _) hS ((hIo X).putObj _ k1 (by omega) k2 rfl) ((World.putObj_heap_other (by omega)).trans k3)⟩
    · exact ⟨some c, _, by have := run_endLoop (P := P) k2 (by rw [hrec]; simp); rw [hrec] at this; exact this, hstop _ c X pre _ (Nat.le_refl _) hSp ((hIxo c X).putObj _ k1 (by omega) k2 rfl) ((World.putObj_heap_other (by omega)).trans k3)⟩
end Go.Proofs.YtihmjejcikpibaaDoor
