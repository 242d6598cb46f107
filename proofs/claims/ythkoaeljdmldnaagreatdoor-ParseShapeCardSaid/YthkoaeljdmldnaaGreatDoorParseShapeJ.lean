/- ParseShape: the row's facts on the program, one by one. -/
import Derived.Test.YthkoaeljdmldnaaGreatDoorRows
import Derived.JoinedOf
import Derived.OpenShut
namespace Go.Proofs.YthkoaeljdmldnaaGreatDoor.parseShape
open Go
set_option maxRecDepth 100000
theorem j1:(Rows.parseShapeRow.inPlace==Tryz.pinned.checked.prog.inPlace 10)=true:=by kernel_rfl
theorem j2:(Rows.parseShapeRow.unfollowed==Tryz.pinned.checked.prog.unfollowed 10)=true:=by kernel_rfl
theorem j3:(Rows.parseShapeRow.recurses==Tryz.pinned.checked.prog.recurses 10)=true:=by kernel_rfl
theorem j4:(Rows.parseShapeRow.named==Tryz.pinned.checked.prog.varsNamed 10)=true:=by kernel_rfl
theorem joined:joinedFacts Tryz.pinned.checked.prog 10 Tryz.f10 Rows.parseShapeSpec Rows.parseShapeRow=true:=by
  unfold joinedFacts
  rw[j1,j2,j3,j4]
  kernel_rfl
end Go.Proofs.YthkoaeljdmldnaaGreatDoor.parseShape
