/- RelexKept: the card's facts on the program, one by one. -/
import Derived.Test.YtnclfgkpcpcapaaGreatDoorTie
import Derived.SevenTiedAt
import Derived.OpenShut
namespace Go.Proofs.YtnclfgkpcpcapaaGreatDoor
open Go
set_option maxRecDepth 100000
theorem rk_l1:false=Tryz.pinned.checked.prog.looks []:=by kernel_rfl
theorem rk_l2:Tryz.pinned.checked.prog.mainIs=some (true,((true, "14e76f775b9ef5b3ea155fb236e18b5d4579ceb115c092016dd1a96d5fc0f700") :Bool×String).2.toList):=by kernel_rfl
theorem rk_l3:false=Rows.relexKeptRow.goesBy Tryz.pinned.checked.prog:=by kernel_rfl
theorem rk_l4:Rows.relexKeptRow.wfByText (OpenSpec.ofChange Rows.relexKeptSpec)=true:=by kernel_rfl
end Go.Proofs.YtnclfgkpcpcapaaGreatDoor
