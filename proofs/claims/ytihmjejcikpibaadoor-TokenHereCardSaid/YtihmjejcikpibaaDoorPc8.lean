/- Pieces in memory. -/
import Derived.Test.YtihmjejcikpibaaDoorRd8
import Derived.Test.YtihmjejcikpibaaDoorPl8
namespace Go.Proofs.YtihmjejcikpibaaDoor
open Go.RowKit
set_option linter.unusedVariables false
set_option linter.unusedSimpArgs false
set_option maxRecDepth 100000
/-- Pieces as cells. -/
def pcc (x : Pc) : List Value := [.bool x.ex, .bool x.qu, .string ⟨x.tx.toArray⟩]
def pccs (L : List Pc) : List Value := L.flatMap pcc
theorem pccs_len (L : List Pc) : (pccs L).length = L.length * 3 := by
  induction L with
  | nil => rfl
  | cons x r ih => simp [pccs, pcc] at ih ⊢; omega
theorem pccs_app (L M : List Pc) : pccs (L ++ M) = pccs L ++ pccs M := by simp [pccs]
theorem pccs_one (x : Pc) : pccs [x] = [.bool x.ex, .bool x.qu, .string ⟨x.tx.toArray⟩] := by simp [pccs, pcc]
theorem one_pcs (L : List Pc) : ∀ u ∈ pccs L, u.oneCell' = true := by
  intro u hu
  simp only [pccs, List.mem_flatMap] at hu
  obtain ⟨x, _, hx⟩ := hu
  simp only [pcc, List.mem_cons, List.not_mem_nil, or_false] at hx
  rcases hx with rfl | rfl | rfl <;> rfl
theorem pccs_get : ∀ (L : List Pc) (k : Nat) (x : Pc), L[k]? = some x → ∀ (j : Nat) (u : Value), (pcc x)[j]? = some u → (pccs L)[k * 3 + j]? = some u
  | [], _, _, h, _, _, _ => by cases h
  | y :: r, 0, x, h, j, u, hj => by
    simp only [List.getElem?_cons_zero, Option.some.injEq] at h
    subst h
    have hl : j < (pcc y).length := (List.getElem?_eq_some_iff.1 hj).1
    simp only [pccs, List.flatMap_cons, Nat.zero_mul, Nat.zero_add]
    rw [List.getElem?_append_left hl]; exact hj
  | y :: r, k + 1, x, h, j, u, hj => by
    simp only [List.getElem?_cons_succ] at h
    have := pccs_get r k x h j u hj
    simp only [pccs, List.flatMap_cons] at this ⊢
    rw [List.getElem?_append_right (by simp [pcc]; omega)]
    rw [← this]
    congr 1
    simp [pcc]; omega
theorem pccs_take (L : List Pc) (k : Nat) (hk : k ≤ L.length) : (pccs L).take (k * 3) = pccs (L.take k) := by
  conv => lhs; rw [← List.take_append_drop k L]
  rw [pccs_app, List.take_append_of_le_length (by rw [pccs_len]; simp; omega), List.take_of_length_le (by rw [pccs_len]; simp; omega)]
/-- The cells of one piece of a readable row. -/
theorem rd_pc {w : World} {B n c : Nat} {A : Option Addr} {L : List Pc} (h : Rd w B 3 (.slice A n c) n (pccs L)) {k : Nat} {x : Pc} (hk : L[k]? = some x) (hn : n = L.length) :
    ∃ g o, A = some ⟨g, o, none⟩ ∧ g < B ∧ w.cell? ⟨g, o + k * 3, none⟩ = some (.bool x.ex) ∧ w.cell? ⟨g, o + k * 3 + 1, none⟩ = some (.bool x.qu) ∧ w.cell? ⟨g, o + k * 3 + 2, none⟩ = some (.string ⟨x.tx.toArray⟩) := by
  obtain ⟨h1, A', c', h2, h3, h4, h5, h6⟩ := h
  cases h2
  have hkl := (List.getElem?_eq_some_iff.1 hk).1
  obtain ⟨g, o, ha, hg, hc⟩ := h6 (by omega)
  refine ⟨g, o, ha, hg, ?_, ?_, ?_⟩
  · have := hc (k * 3) _ (by simpa using pccs_get L k x hk 0 _ rfl)
    simpa [Nat.add_assoc] using this
  · have := hc (k * 3 + 1) _ (pccs_get L k x hk 1 _ rfl)
    simpa [Nat.add_assoc] using this
  · have := hc (k * 3 + 2) _ (pccs_get L k x hk 2 _ rfl)
    simpa [Nat.add_assoc] using this
theorem Tryd.infoPiece : (Tryd.prog.info? 92).map (fun i => (i.zero, i.size, i.bytes)) = some (some (.agg #[.bool false, .bool false, .string ⟨#[]⟩]), 3, 24) := by kernel_rfl
theorem own_empty (w : World) (B : Nat) (e : TypeId) (sz : Nat) (hB : B ≤ w.heap.size) : (w.alloc (.cells #[] e)).ownsRow B e sz (.slice (some ⟨w.heap.size, 0, none⟩) 0 0) 0 [] :=
  ⟨by simp, .inr ⟨w.heap.size, 0, #[], rfl, hB, Bk.new _ _ _, Nat.le_refl _, by unfold maxLen; omega, by simp, by simp⟩⟩
end Go.Proofs.YtihmjejcikpibaaDoor
