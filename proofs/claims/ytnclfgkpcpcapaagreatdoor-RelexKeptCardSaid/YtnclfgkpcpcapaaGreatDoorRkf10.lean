/- RelexKept: the row's facts on the program, one by one. -/
import Derived.Test.YtnclfgkpcpcapaaGreatDoorRows
import Derived.JoinedOf
import Derived.OpenShut
namespace Go.Proofs.YtnclfgkpcpcapaaGreatDoor
open Go
set_option maxRecDepth 100000
theorem rk_j1:(Rows.relexKeptRow.inPlace==Tryz.pinned.checked.prog.inPlace 3)=true:=by kernel_rfl
theorem rk_j2:(Rows.relexKeptRow.unfollowed==Tryz.pinned.checked.prog.unfollowed 3)=true:=by kernel_rfl
theorem rk_j3:(Rows.relexKeptRow.recurses==Tryz.pinned.checked.prog.recurses 3)=true:=by kernel_rfl
theorem rk_j4:(Rows.relexKeptRow.named==Tryz.pinned.checked.prog.varsNamed 3)=true:=by kernel_rfl
theorem relexKept_joined:joinedFacts Tryz.pinned.checked.prog 3 Tryz.f3 Rows.relexKeptSpec Rows.relexKeptRow=true:=by
  unfold joinedFacts
  rw[rk_j1,rk_j2,rk_j3,rk_j4]
  kernel_rfl
end Go.Proofs.YtnclfgkpcpcapaaGreatDoor
