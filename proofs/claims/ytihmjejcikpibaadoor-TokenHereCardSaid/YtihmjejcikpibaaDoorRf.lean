/- The head for texts that range over a function, and small lemmas for it. -/
import Derived.Test.YtihmjejcikpibaaDoorMem
import Derived.RangeFuncNested
import Derived.RangeFuncBound
import Derived.RangeFuncBox
import Derived.RangeFuncCalls
import Derived.RangeFuncLeaves
import Derived.Shelf.Abstract
import Derived.Shelf.RegionOpen
import Derived.OwnWalkIn
import Derived.TacticsInMore
import Derived.LoopNIn
import Derived.LoopIn
import Derived.Lib.AppendStr
namespace Go.Proofs.YtihmjejcikpibaaDoor
open Go.RowKit
set_option linter.unusedVariables false
set_option linter.unusedSimpArgs false
set_option maxRecDepth 100000
/-- A contract outside every fence, in a round. -/
theorem in_round {n l : Nat} {P : Program} {f : FuncId} {args : Array Value} {w : World} {R : Ending → World → Prop} (h : Calls P f args w R) : CallsIn (Fence.wide.inRound l) n P f args w R :=
  CallsIn.inRound l (callsIn_wide.2 h)
/-- Below N nothing has turned but the blocks X. -/
structure KeepX (N : Nat) (X : Nat → Prop) (W W' : World) : Prop where
  size : W.heap.size ≤ W'.heap.size
  same : ∀ k, k < N → ¬ X k → W'.heap[k]? = W.heap[k]?
theorem KeepX.refl (N : Nat) (X : Nat → Prop) (W : World) : KeepX N X W W := ⟨Nat.le_refl _, fun _ _ _ => rfl⟩
theorem KeepX.trans {N : Nat} {X : Nat → Prop} {A B C : World} (h : KeepX N X A B) (k : KeepX N X B C) : KeepX N X A C := ⟨Nat.le_trans h.size k.size, fun i hi hx => (k.same i hi hx).trans (h.same i hi hx)⟩
theorem KeepX.cell {N : Nat} {X : Nat → Prop} {W W' : World} (h : KeepX N X W W') {b : Nat} (hb : b < N) (hx : ¬ X b) (o : Nat) : W'.cell? ⟨b, o, none⟩ = W.cell? ⟨b, o, none⟩ := by
  unfold World.cell?; rw [show W'.heap[(⟨b, o, none⟩ : Addr).block]? = W.heap[(⟨b, o, none⟩ : Addr).block]? from h.same b hb hx]
theorem KeepX.frozen {N : Nat} {X : Nat → Prop} {W W' : World} (h : KeepX N X W W') {b : Nat} (hb : b < N) (hx : ¬ X b) (o : Nat) : W'.frozen? ⟨b, o, none⟩ = W.frozen? ⟨b, o, none⟩ := by
  unfold World.frozen?; rw [show W'.heap[(⟨b, o, none⟩ : Addr).block]? = W.heap[(⟨b, o, none⟩ : Addr).block]? from h.same b hb hx]
theorem keepX_put {N : Nat} {X : Nat → Prop} (W : World) (l : Nat) (o o' : Obj) (hl : N ≤ l) (_ : W.heap[l]? = some o) (_ : o.isCells = false) (_ : o.isWalk = false) : KeepX N X W (W.putObj l o') :=
  ⟨by simp, fun k hk _ => World.putObj_heap_other (by omega)⟩
theorem KeepX.of_below {N B : Nat} {X : Nat → Prop} {W W' : World} (h : Below B W W') (hB : N ≤ B) : KeepX N X W W' := ⟨h.size, fun k hk _ => h.block k (by omega)⟩
theorem KeepX.of_grown {N : Nat} {X : Nat → Prop} {W W' : World} {row : Option Nat} (h : W.grownBy W' row) (hN : N ≤ W.heap.size) (hr : ∀ j, row = some j → N ≤ j ∨ X j) : KeepX N X W W' :=
  ⟨h.size, fun k hk hx => h.block k (by omega) (fun e => by rcases hr k e.symm with h1 | h1; omega; exact hx h1)⟩
theorem KeepX.set {N : Nat} {X : Nat → Prop} {W W' : World} (h : KeepX N X W W') {b : Nat} (hb : N ≤ b ∨ X b) (o : Nat) (v : Value) : KeepX N X W (W'.setCell ⟨b, o, none⟩ v) :=
  ⟨by simpa [World.setCell] using h.size, fun k hk hx => (Below.heap_setCell _ _ _ k (fun e => by have e' : k = b := e; subst e'; rcases hb with h1 | h1; omega; exact hx h1)).trans (h.same k hk hx)⟩
theorem ownFrom_size {β : Type} (N B : Nat) : OwnFrom (β := β) B (fun _ W => N ≤ W.heap.size) := fun _ _ _ _ hs hg _ => Nat.le_trans hs hg.size
/-- append of a text as one step of a region in a round. -/
theorem stepIn_append_str {F : Fence} {m : Nat} {P : Program} {w : World} {ops : Array Oper} {o : Oper} {a : Act} {K : Act → World → Prop} {Q : Exit → Act → World → Prop} {E : Prop} (hgd : o.guard = none) (s x : Operand) (t u : TypeId)
    (ho : o.op = .call { callee := .builtin .append, args := #[s, x], argTypes := #[t, u] })
    (base : Nat) (e : TypeId) (i : TypeInfo) (ht : P.underlying t = some (.slice e)) (hu : P.underlying u = some .string) (hi : P.info? e = some i) (hz : i.zero = some (.int .u8 0)) (hsize : i.size = 1) (hby : i.bytes = 1)
    (v : Value) (n : Nat) (xs : List Value) (hs : a.eval s = v) (hown : w.ownsRow base e 1 v n xs) (y : ByteArray) (hx : a.eval x = .string y)
    (h63 : n + y.size ≤ maxLen) (hbytes : n + y.size ≤ 140737488355328) (hbase : base ≤ w.heap.size)
    (h : ∀ v' w', w'.ownsRow base e 1 v' (n + y.size) (xs ++ Lib.strCells y) → w.grownBy w' v.ownBlock → K (a.put o.dst v') w') :
    if Region.wanted o (yielded ops a.tmps) = true then Oper.wpIn F m P o a w K Q else E := by
  have hw : Region.wanted o (yielded ops a.tmps) = true := by simp [Region.wanted, hgd]
  rw [if_pos hw]
  obtain ⟨v', w', hr, h2, h3, _⟩ := Lib.run_append_own_string (P := P) w base t u o.type e i ht hu hi hz hsize hby v n xs hown y h63 hbytes hbase
  unfold Oper.wpIn
  refine ⟨?_, ?_⟩
  · simp [Oper.about, ho, resolve, Target.leads, Sem.run_pure]
  · rw [Oper.semAt_plain F _ _ (by rw [ho]; intro c hc'; cases hc')]
    simp [execOp, ho, resolve, invoke, builtin, hs, hx, hr, Result.andThen]
    exact h v' w' h2 h3
theorem own_not_cells {W : World} {N e size k : Nat} {v : Value} {xs : List Value} (h : W.ownsRow N e size v k xs) {j : Nat} {o : Obj} (hj : v.ownBlock = some j) (ho : W.heap[j]? = some o) : o.isCells = true := by
  rcases h.2 with ⟨rfl, _⟩ | ⟨g, cap, cur, rfl, _, hh, _⟩
  · simp [Value.ownBlock] at hj
  · have : g = j := by simpa [Value.ownBlock] using hj
    subst this
    rw [hh] at ho
    cases ho
    rfl
/-- A box behind an append to the slice that it holds: the box as it was, ahead of the store. -/
theorem box_grown {W W1 w1 : World} {N B e size k : Nat} {t : TypeId} {v : Value} {xs : List Value} (hv : Boxed W B t v) (hte : t ≠ e) (hrow : W.ownsRow N e size v k xs) (hW : Below W.heap.size W W1) (hg : W1.grownBy w1 v.ownBlock) : Boxed w1 B t v := by
  have h1 : Boxed W1 B t v := (hW.block B hv.lt).trans hv
  exact h1.kept hg (hv.not_row hte hrow)
/-- .. and all behind the store. -/
theorem box_append {W W1 w1 : World} {N M B e size k m : Nat} {t : TypeId} {v v' : Value} {xs ys : List Value} (hv : Boxed W B t v) (hte : t ≠ e) (hrow : W.ownsRow N e size v k xs) (hN : N ≤ W.heap.size) (hB : B < N) (hW : Below W.heap.size W W1) (hg : W1.grownBy w1 v.ownBlock)
    (hown : w1.ownsRow N e size v' m ys) :
    KeepsFrom M W (w1.setCell ⟨B, 0, none⟩ v') ∧ KeepX N (· = B) W (w1.setCell ⟨B, 0, none⟩ v') ∧ Boxed (w1.setCell ⟨B, 0, none⟩ v') B t v' ∧ (w1.setCell ⟨B, 0, none⟩ v').ownsRow N e size v' m ys ∧
      (∀ B0, B0 ≤ B → Below B0 W (w1.setCell ⟨B, 0, none⟩ v')) ∧ N ≤ (w1.setCell ⟨B, 0, none⟩ v').heap.size := by
  have hv1 := box_grown hv hte hrow hW hg
  have hs1 : W.heap.size ≤ w1.heap.size := Nat.le_trans hW.size hg.size
  have hsz : (w1.setCell ⟨B, 0, none⟩ v').heap.size = w1.heap.size := by simp [World.setCell]
  refine ⟨⟨by rw [hsz]; exact hs1, fun j o _ hj ho => ?_⟩, ⟨by rw [hsz]; exact hs1, fun j hj hx => ?_⟩, hv1.set v', hown.kept (grownBy_setCell' w1 B v') (.inr (hv1.not_row hte hown).symm), fun B0 h0 => ?_, by rw [hsz]; omega⟩
  · have hjl := (Array.getElem?_eq_some_iff.1 hj).1
    have e1 : W1.heap[j]? = some o := (hW.block j hjl).trans hj
    have e2 : w1.heap[j]? = some o := (hg.block j (Array.getElem?_eq_some_iff.1 e1).1 (fun e => by rw [own_not_cells hrow e.symm hj] at ho; cases ho)).trans e1
    refine (Below.heap_setCell _ _ _ j (fun e => ?_)).trans e2
    have e' : j = B := e
    subst e'
    have := (show w1.heap[j]? = _ from hv1).symm.trans e2
    cases this
    cases ho
  · refine (Below.heap_setCell _ _ _ j (fun e => hx e)).trans ?_
    have e1 : W1.heap[j]? = W.heap[j]? := hW.block j (by omega)
    exact (hg.block j (by have := hW.size; omega) (fun e => by have := (hrow.lt j e.symm).1; omega)).trans e1
  · exact ((hW.mono (by omega)).grown hg (by have := hW.size; omega) (fun j e => by have := (hrow.lt j e).1; omega)).setCell (p := ⟨B, 0, none⟩) h0 v'
end Go.Proofs.YtihmjejcikpibaaDoor
