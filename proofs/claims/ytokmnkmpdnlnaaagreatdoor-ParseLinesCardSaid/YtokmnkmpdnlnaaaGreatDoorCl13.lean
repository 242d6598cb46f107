/- quillwortref13.Clean, and quillwortlaw13.pipes: how many nodes of a row are Pipes. -/
import Derived.Test.YtokmnkmpdnlnaaaGreatDoorWs13
import Derived.Test.YtokmnkmpdnlnaaaGreatDoorJp13
namespace Go.Proofs.YtokmnkmpdnlnaaaGreatDoor
open Go.RowKit
set_option linter.unusedVariables false
set_option linter.unusedSimpArgs false
set_option maxRecDepth 100000
theorem bad_snoc (L:List Nd) (k:Nat) (x:Nd) (hx:L[k]? = some x):bad (L.take (k+1))=bad (L.take k)+(if (x.kd==17||x.kd==18)=true then 1 else 0):=by
  rw[List.take_add_one,hx,bad_app]
  congr 1
  unfold bad
  show List.countP _ [x.kd]=_
  rw[List.countP_singleton]
theorem nOf_snoc (L:List Nd) (n k:Nat) (x:Nd) (hx:L[k]? = some x):nOf n (L.take (k+1))=nOf n (L.take k)+(if (x.kd==n)=true then 1 else 0):=by
  unfold nOf
  rw[List.take_add_one,hx,kds_app,List.countP_append]
  congr 1
  show List.countP _ [x.kd]=_
  rw[List.countP_singleton]
theorem bad_take (L:List Nd) (k:Nat):bad (L.take k)≤bad L:=by
  conv=>rhs;rw[←List.take_append_drop k L,bad_app]
  omega
theorem nOf_le (n:Nat) (L:List Nd) (k:Nat):nOf n (L.take k)≤k:=by
  unfold nOf
  refine Nat.le_trans List.countP_le_length ?_
  unfold kds
  rw[List.length_map,List.length_take]
  omega
set_option maxHeartbeats 1000000 in
theorem clean13_r (L:List Nd) (A:Option Addr) (c:Nat) (w:World) (hl:L.length≤100000) (h:Rd w w.heap.size 4 (.slice A L.length c) L.length (ndcs L)) :
    Calls Tryz.prog 21 #[.slice A L.length c] w fun e w'=>e=.returned (.bool (decide (bad L=0)))∧w'=w:=by
  obtain⟨b,hb⟩:∃b,b=decide (bad L=0):=⟨_,rfl⟩
  rw[←hb]
  have HH:=Lib.hid (And.intro h hb)
  clear h hb
  go_enter Tryz.func21,Tryz.ntmps21
  go_wp2
  go_loopw [3] (fun i wr=>∃k:Nat,k≤L.length∧i=.int .i64 k∧wr=w∧bad (L.take k)=0) (fun i _=>L.length-(intOf i).toNat)
  case atStart=>exact⟨0,Nat.zero_le _,rfl,rfl,rfl⟩
  case round=>
    obtain⟨k,hk,rfl,rfl,hI⟩:=hrel
    by_cases hlt:k<L.length
    ·have u1:(k:Int)<(L.length:Int):=by omega
     have u2:(0:Int)≤(k:Int):=by omega
     obtain⟨x,hx⟩:∃x,L[k]? = some x:=⟨_,List.getElem?_eq_getElem hlt⟩
     obtain⟨g,o,rfl,_,hc⟩:=rd_sat ndc_len HH.out.1 hx rfl
     obtain⟨zk,hzk⟩:∃z:Int,z=(x.kd:Int):=⟨_,rfl⟩
     have y0:wr.cell? ⟨g,o+k*4,none⟩=some (.int .i64 zk):=by rw[hzk];exact hc 0 _ rfl
     have hs:=bad_snoc L k x hx
     have hbt:=bad_take L (k+1)
     have key:x.kd=17∨(x.kd≠17∧x.kd=18)∨(x.kd≠17∧x.kd≠18):=by omega
     have HI:=Lib.hid (And.intro hI (And.intro hs hbt))
     rcases key with h17|⟨h17,h18⟩|⟨h17,h18⟩
     case' inl=>
       have t1:(zk==17)=true:=by rw[hzk,h17];rfl
       have hv:(x.kd==17||x.kd==18)=true:=by rw[h17];rfl
       have HV:=Lib.hid hv
       clear hI hs hbt hx hc hzk hv h17
     case' inr.inl=>
       have t1:(zk==17)=false:=by rw[hzk,h18];rfl
       have t2:(zk==18)=true:=by rw[hzk,h18];rfl
       have hv:(x.kd==17||x.kd==18)=true:=by rw[h18];rfl
       have HV:=Lib.hid hv
       clear hI hs hbt hx hc hzk hv h17 h18
     case' inr.inr=>
       have t1:(zk==17)=false:=beq_false_of_ne (by omega)
       have t2:(zk==18)=false:=beq_false_of_ne (by omega)
       have hv:(x.kd==17||x.kd==18)=false:=by rw[beq_false_of_ne h17,beq_false_of_ne h18];rfl
       have HV:=Lib.hid hv
       clear hI hs hbt hx hc hzk hv h17 h18
       go_wp2
       exact⟨⟨k+1,by omega,by go_num,trivial,by rw[HI.out.2.1,HV.out,HI.out.1];rfl⟩,by simp[intOf]<;>omega⟩
     all_goals (
       go_wp2
       go_ret
       refine⟨?_,rfl⟩
       have h1:=HI.out.2.1
       have h2:=HI.out.2.2
       rw[HV.out,if_pos rfl,HI.out.1] at h1
       rw[HH.out.2,decide_eq_false (by omega)]
       rfl)
    ·obtain rfl:k=L.length:=by omega
     rw[List.take_length] at hI
     have HI:=Lib.hid hI
     clear hI
     go_wp2
     go_ret
     exact⟨by rw[HH.out.2,decide_eq_true HI.out];rfl,rfl⟩
set_option maxHeartbeats 1000000 in
theorem pipes_l (L:List Nd) (A:Option Addr) (c:Nat) (w:World) (hl:L.length≤100000) (h:Rd w w.heap.size 4 (.slice A L.length c) L.length (ndcs L)) :
    Calls Tryz.prog 22 #[.slice A L.length c] w fun e w'=>e=.returned (.int .i64 (nOf 4 L:Int))∧w'=w:=by
  obtain⟨b,hb⟩:∃b,b=nOf 4 L:=⟨_,rfl⟩
  rw[←hb]
  have HH:=Lib.hid (And.intro h hb)
  clear h hb
  go_enter Tryz.func22,Tryz.ntmps22
  go_wp2
  go_loopw [3,4] (fun n i wr=>∃k:Nat,k≤L.length∧i=.int .i64 k∧n=.int .i64 (nOf 4 (L.take k):Int)∧wr=w) (fun n i _=>L.length-(intOf i).toNat)
  case atStart=>exact⟨0,Nat.zero_le _,rfl,rfl,rfl⟩
  case round=>
    obtain⟨k,hk,rfl,rfl,rfl⟩:=hrel
    by_cases hlt:k<L.length
    ·have u1:(k:Int)<(L.length:Int):=by omega
     have u2:(0:Int)≤(k:Int):=by omega
     obtain⟨x,hx⟩:∃x,L[k]? = some x:=⟨_,List.getElem?_eq_getElem hlt⟩
     obtain⟨g,o,rfl,_,hc⟩:=rd_sat ndc_len HH.out.1 hx rfl
     obtain⟨zk,hzk⟩:∃z:Int,z=(x.kd:Int):=⟨_,rfl⟩
     have y0:wr.cell? ⟨g,o+k*4,none⟩=some (.int .i64 zk):=by rw[hzk];exact hc 0 _ rfl
     have hs:=nOf_snoc L 4 k x hx
     have hle:=nOf_le 4 L k
     obtain⟨m,hm⟩:∃m,m=nOf 4 (L.take k):=⟨_,rfl⟩
     rw[←hm] at hs hle ⊢
     have HI:=Lib.hid hs
     by_cases h4:x.kd=4
     ·have t1:(zk==4)=true:=by rw[hzk,h4];rfl
      have HV:=Lib.hid (show (x.kd==4)=true by rw[h4];rfl)
      clear hs hx hc hzk h4 hm
      go_wp2
      exact⟨⟨k+1,by omega,by go_num,by rw[HI.out,HV.out];go_num,trivial⟩,by simp[intOf]<;>omega⟩
     ·have t1:(zk==4)=false:=beq_false_of_ne (by omega)
      have HV:=Lib.hid (show (x.kd==4)=false from beq_false_of_ne h4)
      clear hs hx hc hzk h4 hm
      go_wp2
      exact⟨⟨k+1,by omega,by go_num,by rw[HI.out,HV.out];rfl,trivial⟩,by simp[intOf]<;>omega⟩
    ·obtain rfl:k=L.length:=by omega
     rw[List.take_length,←HH.out.2]
     go_wp2
     go_ret
     exact⟨rfl,rfl⟩
end Go.Proofs.YtokmnkmpdnlnaaaGreatDoor
