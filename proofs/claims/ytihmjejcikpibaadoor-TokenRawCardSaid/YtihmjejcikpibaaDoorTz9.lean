/- Tokens of any numbers: the bytes of one, and the leaves of a row (token.Text, token.Leaves). -/
import Derived.Test.YtihmjejcikpibaaDoorMem
import Derived.Test.YtihmjejcikpibaaDoorSa9
import Derived.Test.YtihmjejcikpibaaDoorLa9
namespace Go.Proofs.YtihmjejcikpibaaDoor
open Go.RowKit
set_option linter.unusedVariables false
set_option linter.unusedSimpArgs false
set_option maxRecDepth 100000
structure Tz where
  kd : Int
  fr : Int
  to : Int
  op : Bool
def tzc (t : Tz) : List Value := [.int .i64 t.kd, .int .i64 t.fr, .int .i64 t.to, .bool t.op]
theorem tzc_len (t : Tz) : (tzc t).length = 4 := rfl
def inZ (l : List UInt8) (t : Tz) : Bool := decide (0 ≤ t.fr) && decide (t.fr ≤ t.to) && decide (t.to ≤ (l.length : Int))
def txZ (l : List UInt8) (t : Tz) : List UInt8 := if inZ l t = true then sub l t.fr.toNat t.to.toNat else []
structure Lf where
  kd : Int
  tx : List UInt8
  fr : Int
  to : Int
def lfc (x : Lf) : List Value := [.int .i64 x.kd, .string ⟨x.tx.toArray⟩, .int .i64 x.fr, .int .i64 x.to]
theorem lfc_len (x : Lf) : (lfc x).length = 4 := rfl
def lfcs (L : List Lf) : List Value := L.flatMap lfc
theorem lfcs_app (L M : List Lf) : lfcs (L ++ M) = lfcs L ++ lfcs M := by simp [lfcs]
theorem one_lf (x : Lf) : ∀ u ∈ lfcs [x], u.oneCell' = true := by
  intro u hu
  simp [lfcs, lfc] at hu
  rcases hu with rfl | rfl | rfl | rfl <;> rfl
def leafK (k : Int) : Bool := k == 4 || k == 5 || k == 6 || k == 2
def leafZ (l : List UInt8) (t : Tz) : List Lf := if inZ l t = true ∧ leafK t.kd = true then [⟨t.kd, txZ l t, t.fr, t.to⟩] else []
def leavesZ (l : List UInt8) (ts : List Tz) : List Lf := ts.flatMap (leafZ l)
theorem leavesZ_len (l : List UInt8) : ∀ (ts : List Tz), (leavesZ l ts).length ≤ ts.length
  | [] => Nat.le_refl _
  | t :: r => by
    have := leavesZ_len l r
    have h : (leafZ l t).length ≤ 1 := by unfold leafZ; split <;> simp
    show (leafZ l t ++ leavesZ l r).length ≤ _
    rw [List.length_append, List.length_cons]
    omega
theorem leavesZ_take (l : List UInt8) (ts : List Tz) {k : Nat} {t : Tz} (h : ts[k]? = some t) : leavesZ l (ts.take (k + 1)) = leavesZ l (ts.take k) ++ leafZ l t := by
  rw [List.take_add_one, h]
  simp [leavesZ]
/-- The three tests, as they are made: one after the other. -/
theorem inZ_ways (l : List UInt8) (t : Tz) :
    (decide (t.fr < 0) = true ∧ inZ l t = false) ∨ (decide (t.fr < 0) = false ∧ decide (t.to < t.fr) = true ∧ inZ l t = false) ∨
    (decide (t.fr < 0) = false ∧ decide (t.to < t.fr) = false ∧ decide ((l.length : Int) < t.to) = true ∧ inZ l t = false) ∨
    (decide (t.fr < 0) = false ∧ decide (t.to < t.fr) = false ∧ decide ((l.length : Int) < t.to) = false ∧ inZ l t = true) := by
  unfold inZ
  simp only [decide_eq_true_eq, decide_eq_false_iff_not, Bool.and_eq_true, Bool.and_eq_false_iff]
  omega
set_option maxHeartbeats 1000000 in
theorem text9_z (l : List UInt8) (t : Tz) (w : World) (hl : l.length ≤ 9223372036854775807) :
    Calls Tryd.prog 12 #[.string ⟨l.toArray⟩, .agg #[.int .i64 t.kd, .int .i64 t.fr, .int .i64 t.to, .bool t.op]] w fun e w' => e = .returned (.string ⟨(txZ l t).toArray⟩) ∧ Below w.heap.size w w' := by
  unfold txZ
  obtain ⟨kd, fr, to, op⟩ := t
  have hw := inZ_ways l ⟨kd, fr, to, op⟩
  generalize inZ l ⟨kd, fr, to, op⟩ = b at hw ⊢
  rcases hw with ⟨d0, rfl⟩ | ⟨d0, d1, rfl⟩ | ⟨d0, d1, d2, rfl⟩ | ⟨d0, d1, d2, rfl⟩
  iterate 3
    · have d0 : decide (fr < 0) = _ := d0
      try have d1 : decide (to < fr) = _ := d1
      try have d2 : decide ((l.length : Int) < to) = _ := d2
      go_enter Tryd.func12, Tryd.ntmps12
      go_wp2
      go_ret
      exact ⟨rfl, Below.alloc (Below.refl _ _) (Nat.le_refl _) _⟩
  · have d0 : decide (fr < 0) = _ := d0
    have d1 : decide (to < fr) = _ := d1
    have d2 : decide ((l.length : Int) < to) = _ := d2
    have e0 : ¬ fr < 0 := by simpa using d0
    have e1 : ¬ to < fr := by simpa using d1
    have e2 : ¬ (l.length : Int) < to := by simpa using d2
    have v0 : (0 : Int) ≤ fr := by omega
    have v1 : fr ≤ to := by omega
    have v2 : to ≤ (l.length : Int) := by omega
    rw [if_pos rfl]
    go_enter Tryd.func12, Tryd.ntmps12
    go_wp2
    go_ret
    refine ⟨?_, ?_⟩
    · rw [ba_extract]; rfl
    · exact Below.alloc (Below.refl _ _) (Nat.le_refl _) _
theorem tz_row (r : List Value) (hl : r.length = [FK.i, FK.i, FK.i, FK.b].length) (h : Qk [.i, .i, .i, .b] r) : ∃ x : Tz, r = tzc x := by
  obtain ⟨v0, h0, a, rfl, _⟩ := h 0 .i rfl
  obtain ⟨v1, h1, b, rfl, _⟩ := h 1 .i rfl
  obtain ⟨v2, h2, c, rfl, _⟩ := h 2 .i rfl
  obtain ⟨v3, h3, d, rfl⟩ := h 3 .b rfl
  match r, hl with
  | [x, y, z, u], _ =>
    simp at h0 h1 h2 h3
    subst h0 h1 h2 h3
    exact ⟨⟨a, b, c, d⟩, rfl⟩
theorem tz_rows (rows : List (List Value)) (h : ∀ r ∈ rows, r.length = [FK.i, FK.i, FK.i, FK.b].length ∧ Qk [.i, .i, .i, .b] r) : ∃ xs : List Tz, rows.flatten = xs.flatMap tzc ∧ xs.length = rows.length := rows_data tzc tz_row rows h
end Go.Proofs.YtihmjejcikpibaaDoor
