/- quillwortref09.Here: where a document ends, as the reference finds it. -/
import Derived.Test.YtfagdpfgifgnoaaGreatDoorLa9
import Derived.Test.YtfagdpfgifgnoaaGreatDoorMem
import Derived.Lib.Strings
set_option linter.unusedVariables false
set_option linter.unusedSimpArgs false
set_option maxRecDepth 100000
set_option maxHeartbeats 8000000
namespace Go.Proofs.YtfagdpfgifgnoaaGreatDoor
open Go.RowKit
theorem sub_self (l:List UInt8) (i:Nat):sub l i i=[]:=by unfold sub;rw[List.drop_eq_nil_of_le];rw[List.length_take];omega
theorem vg (l:List UInt8) (i:Nat) (h:i<l.length):∃hh:i<(ByteArray.mk l.toArray).size,(ByteArray.mk l.toArray)[i]'hh=l.getD i 0:=⟨h,by rw[List.getD_eq_getElem?_getD,List.getElem?_eq_getElem h];rfl⟩
end Go.Proofs.YtfagdpfgifgnoaaGreatDoor
