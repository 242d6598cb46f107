/- A range over a function whose iterator writes memory of its own between two rounds: the contract of such an iterator, and the law for the loop. X: the blocks that the iterator has laid since its call began; they are its own. -/
import Derived.Test.YtihmjejcikpibaaDoorRf
namespace Go.Proofs.YtihmjejcikpibaaDoor
open Go.RowKit
set_option linter.unusedVariables false
set_option linter.unusedSimpArgs false
set_option maxRecDepth 100000
/-- B is A with new blocks, and with writes to the blocks X. -/
structure XG (X : Nat → Prop) (A B : World) : Prop where
  os : B.os = A.os
  tape : B.tape = A.tape
  output : B.output = A.output
  size : A.heap.size ≤ B.heap.size
  block : ∀ k, k < A.heap.size → ¬ X k → B.heap[k]? = A.heap[k]?
/-- The blocks X, and those laid between two worlds. -/
def xNew (X : Nat → Prop) (A B : World) : Nat → Prop := fun k => X k ∨ (A.heap.size ≤ k ∧ k < B.heap.size)
theorem XG.refl (X : Nat → Prop) (A : World) : XG X A A := ⟨rfl, rfl, rfl, Nat.le_refl _, fun _ _ _ => rfl⟩
theorem XG.of_below {X : Nat → Prop} {A B : World} (h : Below A.heap.size A B) : XG X A B := ⟨h.1, h.2, h.3, h.size, fun k hk _ => h.block k hk⟩
theorem XG.trans {X : Nat → Prop} {A B C : World} (h : XG X A B) (h' : XG (xNew X A B) B C) : XG X A C :=
  ⟨h'.os.trans h.os, h'.tape.trans h.tape, h'.output.trans h.output, Nat.le_trans h.size h'.size, fun k hk hx =>
    (h'.block k (Nat.lt_of_lt_of_le hk h.size) (fun hh => by rcases hh with h1 | ⟨h1, _⟩; exact hx h1; omega)).trans (h.block k hk hx)⟩
theorem XG.mono {X Y : Nat → Prop} {A B : World} (h : XG X A B) (hXY : ∀ k, X k → Y k) : XG Y A B := ⟨h.os, h.tape, h.output, h.size, fun k hk hy => h.block k hk (fun hx => hy (hXY k hx))⟩
theorem XG.below {X : Nat → Prop} {A B B' : World} (h : XG X A B) (hb : Below B.heap.size B B') : XG X A B' := h.trans (XG.of_below hb)
theorem XG.set {X : Nat → Prop} {A B : World} (h : XG X A B) {b : Nat} (hb : X b ∨ A.heap.size ≤ b) (o : Nat) (v : Value) : XG X A (B.setCell ⟨b, o, none⟩ v) :=
  ⟨h.os, h.tape, h.output, by simpa [World.setCell] using h.size, fun k hk hx => (Below.heap_setCell _ _ _ k (fun e => by
    have e' : k = b := e
    subst e'
    rcases hb with h1 | h1
    · exact hx h1
    · omega)).trans (h.block k hk hx)⟩
theorem XG.grown {X : Nat → Prop} {A B C : World} (h : XG X A B) {row : Option Nat} (hg : B.grownBy C row) (hr : ∀ k, row = some k → X k ∨ A.heap.size ≤ k) : XG X A C :=
  ⟨hg.os.trans h.os, hg.tape.trans h.tape, hg.output.trans h.output, Nat.le_trans h.size hg.size, fun k hk hx => (hg.block k (Nat.lt_of_lt_of_le hk h.size) (fun e => by
    rcases hr k e.symm with h1 | h1
    · exact hx h1
    · omega)).trans (h.block k hk hx)⟩
/-- An invariant that leaves the iterator its own blocks, and those that it lays. -/
def Fits {β : Type} (J : (Nat → Prop) → β → World → Prop) : Prop := ∀ X s A B, J X s A → XG X A B → J (xNew X A B) s B
/-- The contract of an iterator that may write blocks of its own between two rounds, and may be stopped. -/
def SeqX {α : Type} (P : Program) (g : Nat) (lb : Array Value) (encs : α → Array Value) (Kp : World → World → Prop) (S Sp : List α → Prop) (N : List α) (w : World) : Prop :=
  ∀ (n l : Nat) (J Jx : (Nat → Prop) → List α → World → Prop) (W : World), Below w.heap.size w W → Fits J → Fits Jx →
    (∀ X pre x W1, J X pre W1 → pre ++ [x] <+: N → ∀ m, YieldAt Fence.wide m P l (encs x) W1 fun e W' =>
      (e = .returned (.bool true) ∧ J X (pre ++ [x]) W' ∧ Kp W1 W' ∧ ∀ k, X k → W'.heap[k]? = W1.heap[k]?) ∨ (e = .returned (.bool false) ∧ Jx X (pre ++ [x]) W' ∧ Kp W1 W' ∧ ∀ k, X k → W'.heap[k]? = W1.heap[k]?)) →
    J (fun _ => False) [] W →
    CallsIn Fence.wide n P g (#[.func (.yield l) #[] #[]] ++ lb) W fun e W' => (∃ v, e = .returned v) ∧ ((∃ xs X, S xs ∧ J X xs W') ∨ (∃ pre X, Sp pre ∧ Jx X pre W'))
theorem round_any {n m : Nat} {P : Program} {l : Nat} {f : FuncId} {tmps : Array Value} {assign body : Code} {w : World} {R : Ending → World → Prop} (h : RoundIn Fence.wide n P l f tmps assign body w R) : RoundIn Fence.wide m P l f tmps assign body w R :=
  ⟨h.1, fun c cs _ => h.2 c cs (by simp [Fence.room, Fence.wide])⟩
/-- How a round's body may be left. -/
def postX {α : Type} (B : Nat) (Kp : World → World → Prop) (X : Nat → Prop) (I : (Nat → Prop) → List α → World → Prop) (Ix : Code → (Nat → Prop) → List α → World → Prop) (xs : List α) (W : World) : Exit → Act → World → Prop
  | .normal, _, W' => KeepsFrom B W W' ∧ Kp W W' ∧ (∀ k, X k → W'.heap[k]? = W.heap[k]?) ∧ I X xs W'
  | .ret, _, W' => KeepsFrom B W W' ∧ Kp W W' ∧ (∀ k, X k → W'.heap[k]? = W.heap[k]?) ∧ Ix .ret X xs W'
  | .exit id, _, W' => KeepsFrom B W W' ∧ Kp W W' ∧ (∀ k, X k → W'.heap[k]? = W.heap[k]?) ∧ Ix (.exit id) X xs W'
  | _, _, _ => False
/-- The loop over such an iterator: one walk of the body, from the caller's invariant to itself. -/
theorem rangeFunc_x {α : Type} {P : Program} {n : Nat} {g : Operand} {ps : Array Tmp} {assign body : Code} {Q : Exit → Act → World → Prop} {a : Act} {w : World}
    (h1 : 1 ≤ n) {gf : Nat} {lb : Array Value} (hg : a.eval g = .func (.func gf) #[] lb) (eg : ∀ args w, (callFunc gf args).run P w = .ok (.enter gf args) w)
    {encs : α → Array Value} {Kp : World → World → Prop} {S Sp : List α → Prop} {N : List α} {w0 : World} (hseq : SeqX P gf lb encs Kp S Sp N w0)
    (hKt : ∀ {A B C : World}, Kp A B → Kp B C → Kp A C) (hKb : ∀ (W : World) (l : Nat) (o o' : Obj), w.heap.size ≤ l → W.heap[l]? = some o → o.isCells = false → o.isWalk = false → Kp W (W.putObj l o')) (hb0 : Below w0.heap.size w0 w) (hps : ∀ x, (encs x).size = ps.size)
    (I : (Nat → Prop) → List α → World → Prop) (Ix : Code → (Nat → Prop) → List α → World → Prop) (hI : Fits I) (hIx : ∀ c, Fits (Ix c)) (hIo : ∀ X, OwnFrom w.heap.size (I X)) (hIxo : ∀ c X, OwnFrom w.heap.size (Ix c X)) (h0 : I (fun _ => False) [] w)
    (Ax : α → Act → World → Prop) (hAx : ∀ x a', OwnFrom w.heap.size (fun (_ : Unit) W => Ax x a' W))
    (hassign : ∀ (l : Nat) (X : Nat → Prop) (pre : List α) (x : α) (W : World) (K : Act → World → Prop), I X pre W → pre ++ [x] <+: N → (∀ a' W', KeepsFrom w.heap.size W W' → Kp W W' → (∀ k, X k → W'.heap[k]? = W.heap[k]?) → I X pre W' → Ax x a' W' → K a' W') →
      assign.wpIn (Fence.wide.inRound l) (n - 1 - 1) P (Exit.then K (fun _ _ _ => False)) { tmps := (ps.zip (encs x)).foldl (fun t (p, v) => t.setIfInBounds p v) a.tmps, defers := [] } W)
    (hbody : ∀ (l : Nat) (X : Nat → Prop) (pre : List α) (x : α) (a' : Act) (W : World), w.heap.size ≤ l → (∃ r, W.heap[l]? = some (.loop r)) → I X pre W → Ax x a' W → pre ++ [x] <+: N → body.wpIn (Fence.wide.inRound l) (n - 1 - 1) P (postX w.heap.size Kp X I Ix (pre ++ [x]) W) a' W)
    (hdone : ∀ (D : Nat) (X : Nat → Prop) (xs : List α) (W : World), w.heap.size ≤ D → S xs → I X xs W → W.heap[D]? = some (.deferred (some [])) → Q .normal { a with defers := { target := .collected D, args := #[] } :: a.defers } W)
    (hstop : ∀ (D : Nat) (c : Code) (X : Nat → Prop) (pre : List α) (W : World), w.heap.size ≤ D → Sp pre → Ix c X pre W → W.heap[D]? = some (.deferred (some [])) → c.wpIn Fence.wide n P Q { a with defers := { target := .collected D, args := #[] } :: a.defers } W) :
    (Code.rangeFunc g ps assign body).wpIn Fence.wide n P Q a w := by
  refine wpIn_rangeFunc fun fn hfn => ?_
  rw [show Fence.wide.round = none from rfl]
  obtain ⟨rec, hrec⟩ : ∃ rec : LoopState → Option Code → Loop, rec = fun st pe => { state := st, pending := pe, fn, tmps := a.tmps, params := ps, assign, body, defers := w.heap.size } := ⟨_, rfl⟩
  obtain ⟨V, hV⟩ : ∃ V, (w.alloc (.deferred (some []))).alloc (.loop (rec .ready none)) = V := ⟨_, rfl⟩
  have hVs : V.heap.size = w.heap.size + 2 := by rw [← hV]; simp
  have hVb : Below w.heap.size w V := by rw [← hV]; exact ((Below.refl _ w).alloc (Nat.le_refl _) _).alloc (by simp) _
  have hL : V.heap[w.heap.size + 1]? = some (.loop (rec .ready none)) := by
    rw [← hV]; have := World.alloc_heap_new (w.alloc (.deferred (some []))) (.loop (rec .ready none)); rwa [World.size_alloc] at this
  have hD : V.heap[w.heap.size]? = some (.deferred (some [])) := by
    rw [← hV]; exact (Below.heap_alloc _ _ _ (by simp)).trans (World.alloc_heap_new w _)
  have hIV : I (fun _ => False) [] V := by rw [← hV]; exact (hIo _).alloc _ ((hIo _).alloc _ h0)
  refine ⟨w.heap.size + 1, [{ target := .collected w.heap.size, args := #[] }], V, { target := .fn (.func gf) lb, args := #[.func (.yield (w.heap.size + 1)) #[] #[]] }, V, gf,
    #[.func (.yield (w.heap.size + 1)) #[] #[]] ++ lb, V, ?_, ?_, ?_, ?_, fun _ => h1, ?_⟩
  · rw [← hV, hrec]; exact run_enterLoop_outer _ _ _ _ _
  · simp only [resolve, hg]
    simp [go_sem]
  · intro f' hf'; trivial
  · simp [invoke, go_sem, eg]
  refine (hseq (n - 1) (w.heap.size + 1)
    (fun X pre W => I X pre W ∧ W.heap[w.heap.size + 1]? = some (.loop (rec .ready none)) ∧ W.heap[w.heap.size]? = some (.deferred (some [])) ∧ ∀ k, X k → w.heap.size + 2 ≤ k)
    (fun X pre W => ∃ c, Ix c X pre W ∧ W.heap[w.heap.size + 1]? = some (.loop (rec .done (some c))) ∧ W.heap[w.heap.size]? = some (.deferred (some [])) ∧ ∀ k, X k → w.heap.size + 2 ≤ k)
    V (hb0.trans (hVb.mono hb0.size)) ?_ ?_ ?_ ⟨hIV, hL, hD, fun _ h => h.elim⟩).mono ?_
  · rintro X s A B ⟨k1, k2, k3, k4⟩ hx
    have hA := (Array.getElem?_eq_some_iff.1 k2).1
    exact ⟨hI X s A B k1 hx, (hx.block _ hA (fun h => by have := k4 _ h; omega)).trans k2, (hx.block _ (by omega) (fun h => by have := k4 _ h; omega)).trans k3, fun k h => by rcases h with h | h; exact k4 k h; omega⟩
  · rintro X s A B ⟨c, k1, k2, k3, k4⟩ hx
    have hA := (Array.getElem?_eq_some_iff.1 k2).1
    exact ⟨c, hIx c X s A B k1 hx, (hx.block _ hA (fun h => by have := k4 _ h; omega)).trans k2, (hx.block _ (by omega) (fun h => by have := k4 _ h; omega)).trans k3, fun k h => by rcases h with h | h; exact k4 k h; omega⟩
  · rintro X pre x W ⟨k1, k2, k3, k4⟩ hlen m
    have hy := run_yield (P := P) (args := encs x) k2 (by rw [hrec]; exact hps x)
    rw [hrec] at hy
    refine ⟨fn, _, assign, body, hy, round_any (roundIn_of_wpIn hfn (hassign _ X pre x W _ k1 hlen ?_))⟩
    intro a' Wa ha1 ha2 ha3 ha4 ha5
    have la := ha1.same _ _ (by omega) k2 rfl
    have da := ha1.same _ _ (Nat.le_refl _) k3 rfl
    have lt := (Array.getElem?_eq_some_iff.1 la).1
    refine ⟨_, run_beginRound la (by rw [hrec]), ?_⟩
    obtain ⟨busy, hbusy⟩ : ∃ busy : Obj, busy = .loop { rec .ready none with state := .busy } := ⟨_, rfl⟩
    rw [← hbusy]
    have lb2 : (Wa.putObj (w.heap.size + 1) busy).heap[w.heap.size + 1]? = some busy := World.putObj_heap_same lt
    have db2 : (Wa.putObj (w.heap.size + 1) busy).heap[w.heap.size]? = some (.deferred (some [])) := (World.putObj_heap_other (by omega)).trans da
    have hx2 : ∀ k, X k → (Wa.putObj (w.heap.size + 1) busy).heap[k]? = W.heap[k]? := fun k h => (World.putObj_heap_other (by have := k4 k h; omega)).trans (ha3 k h)
    have kp2 : Kp W (Wa.putObj (w.heap.size + 1) busy) := hKt ha2 (hKb _ _ _ _ (by omega) la rfl rfl)
    refine wpIn_mono (hbody _ X pre x a' _ (by omega) ⟨_, by rw [lb2, hbusy]⟩ ((hIo X).putObj _ ha4 (by omega) la rfl) ((hAx x a').putObj (s := ()) _ ha5 (by omega) la rfl) hlen) ?_
    have close : ∀ (jump : Option Code) (W3 : World), KeepsFrom w.heap.size (Wa.putObj (w.heap.size + 1) busy) W3 → Kp (Wa.putObj (w.heap.size + 1) busy) W3 → (∀ k, X k → W3.heap[k]? = (Wa.putObj (w.heap.size + 1) busy).heap[k]?) →
        ∃ o : Obj, W3.heap[w.heap.size + 1]? = some o ∧ o.isCells = false ∧
        (Instr.endRound (w.heap.size + 1) jump).run P W3 = .ok (.bool jump.isNone) (W3.putObj (w.heap.size + 1) (.loop (rec (if jump.isNone then .ready else .done) jump))) ∧
        (W3.putObj (w.heap.size + 1) (.loop (rec (if jump.isNone then .ready else .done) jump))).heap[w.heap.size + 1]? = some (.loop (rec (if jump.isNone then .ready else .done) jump)) ∧
        (W3.putObj (w.heap.size + 1) (.loop (rec (if jump.isNone then .ready else .done) jump))).heap[w.heap.size]? = some (.deferred (some [])) ∧
        Kp W (W3.putObj (w.heap.size + 1) (.loop (rec (if jump.isNone then .ready else .done) jump))) ∧
        (∀ k, X k → (W3.putObj (w.heap.size + 1) (.loop (rec (if jump.isNone then .ready else .done) jump))).heap[k]? = W.heap[k]?) := by
      intro jump W3 q1 q2 q3
      have l3 : W3.heap[w.heap.size + 1]? = some busy := q1.same _ _ (by omega) lb2 (by rw [hbusy]; rfl)
      have d3 := q1.same _ _ (Nat.le_refl _) db2 rfl
      have lt3 := (Array.getElem?_eq_some_iff.1 l3).1
      have hr : (Instr.endRound (w.heap.size + 1) jump).run P W3 = .ok (.bool jump.isNone) (W3.putObj (w.heap.size + 1) (.loop (rec (if jump.isNone then .ready else .done) jump))) := by
        have l4 := l3
        rw [hbusy] at l4
        have := run_endRound (P := P) jump l4
        rw [hrec] at this ⊢
        exact this
      refine ⟨busy, l3, by rw [hbusy]; rfl, hr, World.putObj_heap_same lt3, (World.putObj_heap_other (by omega)).trans d3, hKt (hKt kp2 q2) (hKb _ _ _ _ (by omega) l3 (by rw [hbusy]; rfl) (by rw [hbusy]; rfl)), fun k h => ?_⟩
      exact (World.putObj_heap_other (by have := k4 k h; omega)).trans ((q3 k h).trans (hx2 k h))
    rintro e a3 W3 hp
    cases e with
    | normal =>
      obtain ⟨q1, q2, q3, q4⟩ := hp
      obtain ⟨o, l3, oc, hr, l4, d4, kp4, x4⟩ := close none W3 q1 q2 q3
      exact ⟨_, _, hr, .inl ⟨rfl, ⟨(hIo X).putObj _ q4 (by omega) l3 oc, l4, d4, k4⟩, kp4, x4⟩⟩
    | ret =>
      obtain ⟨q1, q2, q3, q4⟩ := hp
      obtain ⟨o, l3, oc, hr, l4, d4, kp4, x4⟩ := close (some .ret) W3 q1 q2 q3
      exact ⟨_, _, hr, .inr ⟨rfl, ⟨.ret, (hIxo _ X).putObj _ q4 (by omega) l3 oc, l4, d4, k4⟩, kp4, x4⟩⟩
    | exit id =>
      obtain ⟨q1, q2, q3, q4⟩ := hp
      obtain ⟨o, l3, oc, hr, l4, d4, kp4, x4⟩ := close (some (.exit id)) W3 q1 q2 q3
      exact ⟨_, _, hr, .inr ⟨rfl, ⟨.exit id, (hIxo _ X).putObj _ q4 (by omega) l3 oc, l4, d4, k4⟩, kp4, x4⟩⟩
    | goto t => exact hp.elim
    | panic ch => exact hp.elim
    | outgrown => exact hp.elim
  · rintro e W2 ⟨⟨v, rfl⟩, ⟨xs, X, hS, k1, k2, k3, k4⟩ | ⟨pre, X, hSp, c, k1, k2, k3, k4⟩⟩
    · exact ⟨none, _, by have := run_endLoop (P := P) k2 (by rw [hrec]; simp); rw [hrec] at this; exact this, hdone _ X xs _ (Nat.le_refl _) hS ((hIo X).putObj _ k1 (by omega) k2 rfl) ((World.putObj_heap_other (by omega)).trans k3)⟩
    · exact ⟨some c, _, by have := run_endLoop (P := P) k2 (by rw [hrec]; simp); rw [hrec] at this; exact this, hstop _ c X pre _ (Nat.le_refl _) hSp ((hIxo c X).putObj _ k1 (by omega) k2 rfl) ((World.putObj_heap_other (by omega)).trans k3)⟩
end Go.Proofs.YtihmjejcikpibaaDoor
