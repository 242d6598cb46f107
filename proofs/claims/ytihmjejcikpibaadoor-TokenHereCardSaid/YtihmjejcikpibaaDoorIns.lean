/- parts.Inside: where a part's inside begins and ends. -/
import Derived.Test.YtihmjejcikpibaaDoorPa2
import Derived.Deep.DeepCutAuto
import Derived.Deep.CutBlock
namespace Go.Proofs.YtihmjejcikpibaaDoor
open Go.RowKit
set_option linter.unusedVariables false
set_option linter.unusedSimpArgs false
set_option maxRecDepth 100000
theorem ret_two {a b c d : Int} (h : a = b) (h2 : c = d) : Ending.returned (.tuple #[.int .i64 a, .int .i64 c]) = .returned (.tuple #[.int .i64 b, .int .i64 d]) := by rw [h, h2]
def inFr (q : Prt) : Int := if q.mode = 1 ∨ q.mode = 7 ∨ q.mode = 8 then q.fr + 2 else if q.mode = 9 then q.fr + 3 else q.fr + 1
def inTo0 (q : Prt) : Int := if q.mode = 12 ∨ q.mode = 13 ∨ q.op = true then toP q else if q.mode = 9 then toP q - 2 else toP q - 1
def inTo (q : Prt) : Int := if inTo0 q < inFr q then inFr q else inTo0 q
theorem md_cases (m : Int) : ((m == 1) = true ∧ (m == 7) = false ∧ (m == 8) = false ∧ (m == 9) = false ∧ (m == 12) = false ∧ (m == 13) = false) ∨
    ((m == 1) = false ∧ (m == 7) = true ∧ (m == 8) = false ∧ (m == 9) = false ∧ (m == 12) = false ∧ (m == 13) = false) ∨
    ((m == 1) = false ∧ (m == 7) = false ∧ (m == 8) = true ∧ (m == 9) = false ∧ (m == 12) = false ∧ (m == 13) = false) ∨
    ((m == 1) = false ∧ (m == 7) = false ∧ (m == 8) = false ∧ (m == 9) = true ∧ (m == 12) = false ∧ (m == 13) = false) ∨
    ((m == 1) = false ∧ (m == 7) = false ∧ (m == 8) = false ∧ (m == 9) = false ∧ (m == 12) = true ∧ (m == 13) = false) ∨
    ((m == 1) = false ∧ (m == 7) = false ∧ (m == 8) = false ∧ (m == 9) = false ∧ (m == 12) = false ∧ (m == 13) = true) ∨
    ((m == 1) = false ∧ (m == 7) = false ∧ (m == 8) = false ∧ (m == 9) = false ∧ (m == 12) = false ∧ (m == 13) = false) := by
  simp only [beq_iff_eq, beq_eq_false_iff_ne, ne_eq]
  omega
set_option maxHeartbeats 1000000 in
theorem inside_m (q : Prt) (w : World) (h0 : 0 ≤ q.fr) (h1 : q.fr ≤ 100000) (h2 : 0 ≤ toP q) (h3 : toP q ≤ 100000) :
    Calls Tryd.prog 92 #[.agg #[.int .i64 q.mode, .int .i64 q.fr, .int .i64 (toP q), .int .i64 q.up, .bool q.op]] w fun e w' => e = .returned (.tuple #[.int .i64 (inFr q), .int .i64 (inTo q)]) ∧ Below w.heap.size w w' := by
  obtain ⟨A, hA⟩ : ∃ A, A = inFr q := ⟨_, rfl⟩
  obtain ⟨B, hB⟩ : ∃ B, B = inTo q := ⟨_, rfl⟩
  rw [← hA, ← hB]
  unfold inTo inTo0 at hB
  rw [← hA] at hB
  unfold inFr at hA
  rcases md_cases q.mode with ⟨t1, t7, t8, t9, t12, t13⟩ | ⟨t1, t7, t8, t9, t12, t13⟩ | ⟨t1, t7, t8, t9, t12, t13⟩ | ⟨t1, t7, t8, t9, t12, t13⟩ | ⟨t1, t7, t8, t9, t12, t13⟩ | ⟨t1, t7, t8, t9, t12, t13⟩ | ⟨t1, t7, t8, t9, t12, t13⟩
  all_goals (
    have HT := Lib.hid (And.intro t1 (And.intro t7 (And.intro t8 (And.intro t9 (And.intro t12 t13)))))
    cases hop : q.op
    all_goals (
      have HA := Lib.hid (And.intro hA (And.intro hB hop))
      clear hA hB hop
      go_enter Tryd.func92, Tryd.ntmps92
      go_wp2_with fail
      go_region
      all_goals go_wp2_with fail
      all_goals (
        go_ret2
        obtain ⟨e1, e2, e3⟩ := HA.out
        obtain ⟨s1, s7, s8, s9, s12, s13⟩ := HT.out
        simp only [beq_iff_eq, beq_eq_false_iff_ne, ne_eq] at s1 s7 s8 s9 s12 s13
        refine ⟨ret_two ?_ ?_, ((Below.refl _ _).alloc (Nat.le_refl _) _).drew⟩
        · simp [s1, s7, s8, s9] at e1
          omega
        · simp [s1, s7, s8, s9, s12, s13, e3] at e1 e2
          rw [e2]
          first
            | (rw [if_pos (by omega)]; omega)
            | (rw [if_neg (by omega)]; omega)
            | omega)))
theorem inside_op (q : Prt) (o : Bool) (w : World) (ho : q.op = o) (h0 : 0 ≤ q.fr) (h1 : q.fr ≤ 100000) (h2 : 0 ≤ toP q) (h3 : toP q ≤ 100000) :
    Calls Tryd.prog 92 #[.agg #[.int .i64 q.mode, .int .i64 q.fr, .int .i64 (toP q), .int .i64 q.up, .bool o]] w fun e w' => e = .returned (.tuple #[.int .i64 (inFr q), .int .i64 (inTo q)]) ∧ Below w.heap.size w w' := by
  subst ho
  exact inside_m q w h0 h1 h2 h3
end Go.Proofs.YtihmjejcikpibaaDoor
