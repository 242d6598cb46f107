/- quillwortlaw12.Short, quillwortref11.Above and Right: a right tree. -/
import Derived.Test.YtlbfdbinaekjoaaGreatDoorQf13
import Derived.Test.YtlbfdbinaekjoaaGreatDoorTr13
import Derived.BigQuiet
namespace Go.Proofs.YtlbfdbinaekjoaaGreatDoor
open Go.RowKit
set_option linter.unusedVariables false
set_option linter.unusedSimpArgs false
set_option maxRecDepth 100000
theorem lfc_lens (x:Lf):(lfc x).length=4:=rfl
def shT (x:Lf):Bool:=decide (x.tx.length≤60)
def shF (F:List Lf) (m:Int):Bool:=decide ((F.length:Int)≤m)&&F.all shT
theorem shF_no {F:List Lf} {m:Int} {k:Nat} {x:Lf} (hx:F[k]? = some x) (h:shT x=false):shF F m=false:=by
  unfold shF
  rw[Bool.and_eq_false_iff]
  refine .inr ?_
  rw[List.all_eq_false]
  exact⟨x,List.mem_of_getElem? hx,by rw[h];decide⟩
theorem shF_yes {F:List Lf} {m:Int} (hl:(F.length:Int)≤m) (h:∀x∈F,shT x=true):shF F m=true:=by
  unfold shF
  rw[Bool.and_eq_true]
  exact⟨decide_eq_true hl,List.all_eq_true.2 h⟩
theorem shF_fb {F:List Lf} (h:shF F 40=true):F.length≤40∧∀x∈F,x.tx.length≤60:=by
  unfold shF at h
  rw[Bool.and_eq_true] at h
  refine⟨by have:=of_decide_eq_true h.1;omega,fun x hx=>of_decide_eq_true (List.all_eq_true.1 h.2 x hx)⟩
set_option maxHeartbeats 2000000 in
theorem short_m (F:List Lf) (A:Option Addr) (c:Nat) (m:Int) (w:World) (hm:F.length≤9223372036854775807) (h:Rd w w.heap.size 4 (.slice A F.length c) F.length (lfcs F)) :
    Calls Tryz.prog 5 #[.slice A F.length c,.int .i64 m] w fun e w'=>e=.returned (.bool (shF F m))∧w'=w:=by
  have H0:=Lib.hid h
  clear h
  go_enter Tryz.func5,Tryz.ntmps5
  by_cases hlm:m<(F.length:Int)
  ·go_wp2
   go_ret
   exact⟨by unfold shF;rw[decide_eq_false (by omega)];rfl,rfl⟩
  ·have hlm2:=Lib.hid hlm
   go_wp2
   go_loopw [5] (fun i wr=>∃k:Nat,k≤F.length∧i=.int .i64 k∧wr=w∧∀x∈F.take k,shT x=true) (fun i _=>F.length-(intOf i).toNat)
   case atStart=>exact⟨0,Nat.zero_le _,rfl,rfl,fun x hx=>by simp at hx⟩
   case round=>
     obtain⟨k,hk,rfl,rfl,hI⟩:=hrel
     by_cases hlt:k<F.length
     ·have u1:(k:Int)<(F.length:Int):=by omega
      have u2:(0:Int)≤(k:Int):=by omega
      obtain⟨x,hx⟩:∃x,F[k]? = some x:=⟨_,List.getElem?_eq_getElem hlt⟩
      obtain⟨g,o,rfl,_,hc⟩:=rd_sat lfc_lens H0.out hx rfl
      have y1:wr.cell? ⟨g,o+k*4+1,none⟩=some (.string ⟨x.tx.toArray⟩):=hc 1 _ rfl
      have HX:=Lib.hid (And.intro hI hx)
      clear hI hx hc
      by_cases hd:(60:Int)<(x.tx.length:Int)
      ·go_wp2
       go_ret
       exact⟨by rw[shF_no HX.out.2 (by unfold shT;rw[decide_eq_false (by omega)])];rfl,rfl⟩
      ·go_wp2
       refine⟨⟨k+1,by omega,by go_num,trivial,fun y hy=>?_⟩,by simp[intOf]<;>omega⟩
       rw[List.take_add_one,HX.out.2] at hy
       rcases List.mem_append.1 hy with hy|hy
       ·exact HX.out.1 y hy
       ·obtain rfl:y=x:=by simpa using hy
        exact decide_eq_true (by omega)
     ·obtain rfl:k=F.length:=by omega
      rw[List.take_length] at hI
      have HX:=Lib.hid hI
      clear hI
      go_wp2
      go_ret
      exact⟨by rw[shF_yes (by have:=hlm2.out;omega) HX.out];rfl,rfl⟩
end Go.Proofs.YtlbfdbinaekjoaaGreatDoor
