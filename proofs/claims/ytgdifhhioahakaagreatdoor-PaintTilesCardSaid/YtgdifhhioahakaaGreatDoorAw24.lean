/- Paint: awake. -/
import Derived.Test.YtgdifhhioahakaaGreatDoorLe24
namespace Go.Proofs.YtgdifhhioahakaaGreatDoor
open Go.RowKit
set_option linter.unusedVariables false
set_option linter.unusedSimpArgs false
set_option maxRecDepth 100000
theorem awake24_c (w:World) :
    Calls Tryz.prog 9 #[] w fun e w'=>e=.returned (.bool true)∧Below w.heap.size w w':=by
  go_enter Tryz.func9,Tryz.ntmps9
  go_wp2_with (
    (go_at_call 10
     refine(letters_m [108,115,32,39,97,39] w (by decide)).mono ?_
     rintro e w1 ⟨he,hb⟩
     rw[awk24] at he
     subst he
     have H1:=Lib.hid hb
     clear hb))
  go_ret
  exact⟨rfl,H1.out⟩
end Go.Proofs.YtgdifhhioahakaaGreatDoor
