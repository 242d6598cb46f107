/- What an iterator or a consumer keeps, told by the types of the cells. -/
import Derived.Test.YtihmjejcikpibaaDoorRf
namespace Go.Proofs.YtihmjejcikpibaaDoor
open Go.RowKit
set_option linter.unusedVariables false
set_option linter.unusedSimpArgs false
set_option maxRecDepth 100000
attribute [local go_sem] Oper.semAt_some
/-- Cells of other types are as they were. -/
structure KC (T : List TypeId) (W W' : World) : Prop where
  size : W.heap.size ≤ W'.heap.size
  same : ∀ (k : Nat) (cs : Array Value) (t : TypeId) (fr : Nat × Nat), W.heap[k]? = some (.cells cs t fr) → t ∉ T → W'.heap[k]? = some (.cells cs t fr)
theorem KC.refl (T : List TypeId) (W : World) : KC T W W := ⟨Nat.le_refl _, fun _ _ _ _ h _ => h⟩
theorem KC.trans {T : List TypeId} {A B C : World} (h : KC T A B) (h' : KC T B C) : KC T A C := ⟨Nat.le_trans h.size h'.size, fun k cs t fr hk ht => h'.same k cs t fr (h.same k cs t fr hk ht) ht⟩
theorem KC.of_below {T : List TypeId} {W W' : World} (h : Below W.heap.size W W') : KC T W W' := ⟨h.size, fun k cs t fr hk _ => (h.block k (Array.getElem?_eq_some_iff.1 hk).1).trans hk⟩
theorem KC.put {T : List TypeId} (W : World) (l : Nat) (o o' : Obj) (hl : W.heap[l]? = some o) (ho : o.isCells = false) : KC T W (W.putObj l o') := by
  refine ⟨by simp, fun k cs t fr hk _ => ?_⟩
  by_cases e : k = l
  · subst e
    rw [hl] at hk
    cases hk
    cases ho
  · exact (World.putObj_heap_other e).trans hk
theorem KC.set {T : List TypeId} {W W' : World} (h : KC T W W') {g : Nat} {cs : Array Value} {t : TypeId} {fr : Nat × Nat} (hg : W'.heap[g]? = some (.cells cs t fr)) (ht : t ∈ T) (i : Nat) (v : Value) : KC T W (W'.setCell ⟨g, i, none⟩ v) := by
  refine ⟨by simpa [World.setCell] using h.size, fun k cs' t' fr' hk ht' => ?_⟩
  have h1 := h.same k cs' t' fr' hk ht'
  by_cases e : k = g
  · subst e
    rw [hg] at h1
    cases h1
    exact absurd ht ht'
  · exact (Below.heap_setCell _ _ _ k e).trans h1
theorem KC.grown {T : List TypeId} {A B C : World} (h : KC T A B) {row : Option Nat} (hg : B.grownBy C row) (hr : ∀ k, row = some k → ∃ (cs : Array Value) (t : TypeId) (fr : Nat × Nat), B.heap[k]? = some (.cells cs t fr) ∧ t ∈ T) : KC T A C := by
  refine ⟨Nat.le_trans h.size hg.size, fun k cs t fr hk ht => ?_⟩
  have h1 := h.same k cs t fr hk ht
  refine (hg.block k (Array.getElem?_eq_some_iff.1 h1).1 ?_).trans h1
  intro e
  obtain ⟨cs', t', fr', h2, ht'⟩ := hr k e.symm
  rw [h1] at h2
  cases h2
  exact ht ht'
theorem Bk.kc {T : List TypeId} {w w' : World} {g : Nat} {t : TypeId} {cs : Array Value} (h : Bk w g t cs) (hk : KC T w w') (ht : t ∉ T) : Bk w' g t cs := hk.same g cs t _ h ht
theorem own_kc {T : List TypeId} {w w' : World} {B e sz n : Nat} {v : Value} {xs : List Value} (h : w.ownsRow B e sz v n xs) (hk : KC T w w') (ht : e ∉ T) : w'.ownsRow B e sz v n xs := by
  refine ⟨h.1, ?_⟩
  rcases h.2 with h2 | ⟨g, cap, cur, rfl, hg, hh, r⟩
  · exact .inl h2
  · exact .inr ⟨g, cap, cur, rfl, hg, hk.same g _ _ _ hh ht, r⟩
theorem grown_of_below {W W' : World} (h : Below W.heap.size W W') : W.grownBy W' none := ⟨h.1, h.2, h.3, h.size, fun k hk _ => h.block k hk⟩
theorem keepsFrom_below {B : Nat} {W W' : World} (h : Below W.heap.size W W') : KeepsFrom B W W' := ⟨h.size, fun k o _ hk _ => (h.block k (Array.getElem?_eq_some_iff.1 hk).1).trans hk⟩
theorem bk_own (B : Nat) (t : TypeId) (cs : Array Value) (F : Nat → Prop) : OwnFrom B (fun (_ : Unit) W => ∃ b, Bk W b t cs ∧ F b) := by
  rintro s W W' row ⟨b, hb, hF⟩ hg hr
  refine ⟨b, (hg.block b hb.lt (fun e => ?_)).trans hb, hF⟩
  obtain ⟨_, o, ho, hc⟩ := hr b e.symm
  rw [show W.heap[b]? = _ from hb] at ho
  cases ho
  cases hc
end Go.Proofs.YtihmjejcikpibaaDoor
