/- quillwortlaw08.awake. -/
import Derived.Test.YtjkiapgboljabaaVl8
namespace Go.Proofs.Ytjkiapgboljabaa
open Go.RowKit
set_option linter.unusedVariables false
set_option linter.unusedSimpArgs false
set_option maxRecDepth 100000
def awk8 : List UInt8 := [97, 39, 98, 32, 99, 39, 34, 100, 92, 34, 101, 34, 92, 102]
theorem awk8_b : valB awk8 = true := by decide +kernel
theorem awk8_t : valT awk8 = [97, 98, 32, 99, 100, 34, 101, 102] := by decide +kernel
theorem awake8_c (w : World) : Calls Try.prog 31 #[] w fun e w' => e = .returned (.bool true) ∧ Below w.heap.size w w' := by
  go_enter Try.func31, Try.ntmps31
  go_wp2_with (
    (go_at_call 33
     refine (value_m awk8 w (by decide)).mono ?_
     rintro e w1 ⟨he, hb1⟩
     rw [awk8_b, awk8_t] at he
     subst he))
  go_ret
  exact ⟨rfl, hb1⟩
end Go.Proofs.Ytjkiapgboljabaa
