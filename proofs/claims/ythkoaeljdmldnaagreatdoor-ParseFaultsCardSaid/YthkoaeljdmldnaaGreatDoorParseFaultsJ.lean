/- ParseFaults: the row's facts on the program, one by one. -/
import Derived.Test.YthkoaeljdmldnaaGreatDoorRows
import Derived.JoinedOf
import Derived.OpenShut
namespace Go.Proofs.YthkoaeljdmldnaaGreatDoor.parseFaults
open Go
set_option maxRecDepth 100000
theorem j1:(Rows.parseFaultsRow.inPlace==Tryz.pinned.checked.prog.inPlace 12)=true:=by kernel_rfl
theorem j2:(Rows.parseFaultsRow.unfollowed==Tryz.pinned.checked.prog.unfollowed 12)=true:=by kernel_rfl
theorem j3:(Rows.parseFaultsRow.recurses==Tryz.pinned.checked.prog.recurses 12)=true:=by kernel_rfl
theorem j4:(Rows.parseFaultsRow.named==Tryz.pinned.checked.prog.varsNamed 12)=true:=by kernel_rfl
theorem joined:joinedFacts Tryz.pinned.checked.prog 12 Tryz.f12 Rows.parseFaultsSpec Rows.parseFaultsRow=true:=by
  unfold joinedFacts
  rw[j1,j2,j3,j4]
  kernel_rfl
end Go.Proofs.YthkoaeljdmldnaaGreatDoor.parseFaults
