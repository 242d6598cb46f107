/- The law of chapter 7 is awake: the parts of one text. -/
import Derived.Test.YtjkiapgboljabaaPa2
import Derived.BigQuiet
namespace Go.Proofs.Ytjkiapgboljabaa
open Go.RowKit
set_option linter.unusedVariables false
set_option linter.unusedSimpArgs false
set_option maxRecDepth 100000
instance : DecidableEq Prt := fun ⟨a, b, c, d, e⟩ ⟨a2, b2, c2, d2, e2⟩ => decidable_of_iff (a = a2 ∧ b = b2 ∧ c = c2 ∧ d = d2 ∧ e = e2) (by simp)
theorem parts_awake : partsL [97, 39, 98, 39, 36, 120] = [⟨4, 1, 4, -1, false⟩, ⟨12, 4, 6, -1, false⟩] := by decide +kernel
set_option maxHeartbeats 1000000 in
theorem awake7_c (w : World) : Calls Try.prog 17 #[] w fun e w' => e = .returned (.bool true) ∧ Below w.heap.size w w' := by
  go_enter Try.func17, Try.ntmps17
  go_wp2_with (go_at_call 18
               refine (of_m [97, 39, 98, 39, 36, 120] _ (by decide)).mono ?_
               rintro e w1 ⟨v, rfl, ho, hb⟩
               rw [parts_awake] at ho
               obtain ⟨A, n, c, rfl⟩ := own_form' ho
               obtain rfl := own_len ho
               obtain ⟨g, rfl⟩ := own_at ho (by decide)
               have y0 : w1.cell? ⟨g, 0, none⟩ = some (.int .i64 4) := own_cell ho 0 _ rfl
               have y1 : w1.cell? ⟨g, 1, none⟩ = some (.int .i64 1) := own_cell ho 1 _ rfl
               have y2 : w1.cell? ⟨g, 2, none⟩ = some (.int .i64 4) := own_cell ho 2 _ rfl
               have y3 : w1.cell? ⟨g, 3, none⟩ = some (.int .i64 (-1)) := own_cell ho 3 _ rfl
               have y4 : w1.cell? ⟨g, 4, none⟩ = some (.bool false) := own_cell ho 4 _ rfl
               have z0 : w1.cell? ⟨g, 5, none⟩ = some (.int .i64 12) := own_cell ho 5 _ rfl
               have z1 : w1.cell? ⟨g, 6, none⟩ = some (.int .i64 4) := own_cell ho 6 _ rfl
               have z2 : w1.cell? ⟨g, 7, none⟩ = some (.int .i64 6) := own_cell ho 7 _ rfl
               have z3 : w1.cell? ⟨g, 8, none⟩ = some (.int .i64 (-1)) := own_cell ho 8 _ rfl
               have z4 : w1.cell? ⟨g, 9, none⟩ = some (.bool false) := own_cell ho 9 _ rfl
               have H := Lib.hid (And.intro ho hb)
               clear ho hb)
  go_ret
  exact ⟨rfl, H.out.2⟩
end Go.Proofs.Ytjkiapgboljabaa
