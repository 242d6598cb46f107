/- ParseShape: the card's facts on the program, one by one. -/
import Derived.Test.YthkoaeljdmldnaaGreatDoorTie
import Derived.SevenTiedAt
import Derived.OpenShut
namespace Go.Proofs.YthkoaeljdmldnaaGreatDoor.parseShape
open Go
set_option maxRecDepth 100000
theorem l1:false=Tryz.pinned.checked.prog.looks []:=by kernel_rfl
theorem l2:Tryz.pinned.checked.prog.mainIs=some (true,((true, "22d196ff59f02f9f3ebff0284455dfe01e8b107a15a7b5cefdaf0963a745ee51") :Bool×String).2.toList):=by kernel_rfl
theorem l3:false=Rows.parseShapeRow.goesBy Tryz.pinned.checked.prog:=by kernel_rfl
theorem l4:Rows.parseShapeRow.wfByText (OpenSpec.ofChange Rows.parseShapeSpec)=true:=by kernel_rfl
end Go.Proofs.YthkoaeljdmldnaaGreatDoor.parseShape
