/- PaintTiles: the walk. -/
import Derived.Test.YtgdifhhioahakaaGreatDoorAw24
import Derived.Test.YtgdifhhioahakaaGreatDoorRu24
import Derived.BigQuiet
namespace Go.Proofs.YtgdifhhioahakaaGreatDoor
open Go.RowKit
set_option linter.unusedVariables false
set_option linter.unusedSimpArgs false
set_option maxRecDepth 100000
theorem rnc_len (x:Rn):(rnc x).length=3:=rfl
set_option maxHeartbeats 4000000 in
theorem paintTiles_w (l:List UInt8) (w:World) (hm:l.length≤9223372036854775807) :
    Calls Tryz.prog 6 #[.string ⟨l.toArray⟩] w fun e w'=>e=.returned (.bool true)∧Below w.heap.size w w':=by
  by_cases h8:100<l.length
  ·have k1:decide ((100:Int)<(l.length:Int))=true:=by simp;omega
   go_enter Tryz.func6,Tryz.ntmps6
   go_wp2_with (
     (go_at_call 9
      refine(awake24_c _).mono ?_
      rintro e w1 ⟨rfl,hb1⟩
      have H1:=Lib.hid hb1
      clear hb1))
   go_ret
   exact⟨rfl,H1.out⟩
  have k1:decide ((100:Int)<(l.length:Int))=false:=by simp;omega
  have hl:l.length≤100:=by omega
  clear h8
  obtain⟨R,hR⟩:∃R,R=runsT (clsT l):=⟨_,rfl⟩
  obtain⟨T,hT⟩:∃T,T=(clsT l).map letC:=⟨_,rfl⟩
  have hTl:T.length=l.length:=by rw[hT,List.length_map,clsT_len]
  have cr:=fun W=>runs_m l W (by omega)
  have cl:=fun W=>letters_m l W (by omega)
  have hok:=runsT_ok (clsT l)
  have hrl:=runsT_len (clsT l)
  rw[clsT_len] at hrl
  have hrg:=clsT_rng l
  rw[←hR] at cr hok hrl
  rw[←hT] at cl
  have hcl:=clsT_len l
  obtain⟨cs,hcs⟩:∃cs,cs=clsT l:=⟨_,rfl⟩
  rw[←hcs] at hT hok hrg hcl
  have HC:=Lib.hid (And.intro cr (And.intro cl (And.intro hok (And.intro hrg (And.intro hT hcl)))))
  clear cr cl hok hrg hR hT hcs hcl
  have k2:((T.length:Int)!=(l.length:Int))=false:=by rw[hTl];simp
  go_enter Tryz.func6,Tryz.ntmps6
  go_wp2_with (first
    | (go_at_call 9
       refine(awake24_c _).mono ?_
       rintro e w1 ⟨rfl,hb1⟩
       have H1:=Lib.hid hb1
       clear hb1)
    | (go_at_call 13
       refine(HC.out.1 _).mono ?_
       rintro e w2 ⟨v2,rfl,ho2,hb2⟩
       obtain⟨A2,n2,c2,rfl⟩:=own_form' ho2
       obtain rfl:=own_len ho2
       have H2:=Lib.hid (And.intro ho2 (H1.out.trans (hb2.mono H1.out.size)))
       clear ho2 hb2)
    | (go_at_call 10
       refine(HC.out.2.1 _).mono ?_
       rintro e w3 ⟨rfl,hb3⟩
       have H3:=Lib.hid (And.intro (own_below H2.out.1 hb3) (H2.out.2.trans (hb3.mono H2.out.2.size)))
       clear hb3))
  go_loopw [6,5] (fun i m wr=>∃k:Nat,k≤R.length∧i=.int .i64 k∧m=.int .i64 (endR R k:Int)∧Below w.heap.size w wr∧wr.ownsRow w1.heap.size 31 3 (.slice A2 R.length c2) R.length (rncs R)) (fun i _ _=>R.length-(intOf i).toNat)
  case atStart=>exact⟨0,by omega,rfl,rfl,H3.out.2,H3.out.1⟩
  case round=>
    obtain⟨k,hk,rfl,rfl,hbw,how⟩:=hrel
    have HW:=Lib.hid (And.intro hbw how)
    clear hbw how
    by_cases hlt:k<R.length
    ·have u1:(k:Int)<(R.length:Int):=by omega
     have u2:(0:Int)≤(k:Int):=by omega
     obtain⟨r,hget⟩:∃r,R[k]? = some r:=⟨_,List.getElem?_eq_getElem hlt⟩
     obtain⟨ra,re,rb,rall,rne⟩:=HC.out.2.2.1.all k r hget
     have hend:endR R (k+1)=r.b:=by show (R.getD k (⟨0,0,0⟩:Rn)).b=r.b;rw[List.getD_eq_getElem?_getD,hget];rfl
     have hcs:=rall r.a (Nat.le_refl _) ra
     have hrc:=HC.out.2.2.2.1 r.c (List.mem_of_getElem? hcs)
     obtain⟨g,q,rfl,_,hc⟩:=rd_sat (lay:=rnc) rnc_len (Rd.of_own HW.out.2) hget rfl
     have y0:wr.cell? ⟨g,q+k*3,none⟩=some (.int .i64 (r.c:Int)):=hc 0 _ rfl
     have y1:wr.cell? ⟨g,q+k*3+1,none⟩=some (.int .i64 (r.a:Int)):=hc 1 _ rfl
     have y2:wr.cell? ⟨g,q+k*3+2,none⟩=some (.int .i64 (r.b:Int)):=hc 2 _ rfl
     rw[←re]
     have hcl:=HC.out.2.2.2.2.2
     have hrb:r.b≤l.length:=by omega
     have t1:decide (r.b≤r.a)=false:=by simp;omega
     have t2:decide (l.length<r.b)=false:=by simp;omega
     have t3:decide ((r.c:Int)<1)=false:=by simp;omega
     have t4:decide ((13:Int)<(r.c:Int))=false:=by simp;omega
     have HR:=Lib.hid (And.intro rall (And.intro hend (And.intro rne (And.intro re hrc))))
     clear hc rall hend rne re hrc rb hcs hcl
     go_upto_region 13 with fail
     go_cut [86] from 21 to 105 (fun s wx=>s=.bool false∧Below w.heap.size w wx∧wx.ownsRow w1.heap.size 31 3 (.slice (some ⟨g,q,none⟩) R.length c2) R.length (rncs R))
     case first=>
       by_cases hk0:k=0
       ·subst hk0
        rw[Nat.zero_mul,Nat.add_zero] at y0 y1 y2
        go_quiet (fail)
        all_goals go_wp2_with fail
        all_goals go_meet
        all_goals exact⟨rfl,below_drewN' HW.out.1 _,HW.out.2⟩
       ·obtain⟨m,rfl⟩:∃m,k=m+1:=⟨k-1,by omega⟩
        obtain⟨p,hp⟩:∃p,R[m]? = some p:=⟨_,List.getElem?_eq_getElem (by omega)⟩
        obtain⟨_,_,he,_,hcp⟩:=rd_sat (lay:=rnc) rnc_len (Rd.of_own HW.out.2) hp rfl
        cases he
        have x0:wr.cell? ⟨g,q+m*3,none⟩=some (.int .i64 (p.c:Int)):=hcp 0 _ rfl
        have t5:(p.c==r.c)=false:=beq_false_of_ne (HR.out.2.2.1 m p rfl hp)
        have H5:=Lib.hid (show ((p.c:Int)==(r.c:Int))=false from beq_false_of_ne (fun e=>HR.out.2.2.1 m p rfl hp (by omega)))
        have u3:(m:Int)<(R.length:Int):=by omega
        have u4:(0:Int)≤(m:Int):=by omega
        have v1:IntKind.i64.wrap ((m:Int)+1-1)=(m:Int):=by rw[Int.add_sub_cancel];exact IntWalk.i64_in _ (by omega)
        have v2:IntKind.i64.wrap (m:Int)=(m:Int):=IntWalk.i64_in _ (by omega)
        have y0':wr.cell? ⟨g,q+(m*3+3),none⟩=some (.int .i64 (r.c:Int)):=by rw[show q+(m*3+3)=q+(m+1)*3 by omega];exact y0
        clear hcp hp hk0
        go_quiet (fail)
        all_goals go_wp2_with fail
        all_goals go_meet
        all_goals exact⟨by first|rfl|rw[H5.out],below_drewN' HW.out.1 _,HW.out.2⟩
     case rest=>
       obtain⟨rfl,hbc,hoc⟩:=hcut
       have HX:=Lib.hid (And.intro hbc hoc)
       clear hbc hoc y0 y1 y2 t1 t2 t3 t4
       go_wp2_with fail
       go_loopw [5] (fun m wr=>∃t:Nat,r.a≤t∧t≤r.b∧m=.int .i64 t∧Below w.heap.size w wr∧wr.ownsRow w1.heap.size 31 3 (.slice (some ⟨g,q,none⟩) R.length c2) R.length (rncs R)) (fun m _=>r.b-(intOf m).toNat)
       case atStart=>exact⟨r.a,Nat.le_refl _,by omega,rfl,HX.out.1,HX.out.2⟩
       case round=>
         obtain⟨t,ht1,ht2,rfl,hbw,how⟩:=hrel
         obtain⟨_,_,he,_,hcp⟩:=rd_sat (lay:=rnc) rnc_len (Rd.of_own how) hget rfl
         cases he
         have x0:wr.cell? ⟨g,q+k*3,none⟩=some (.int .i64 (r.c:Int)):=hcp 0 _ rfl
         have x2:wr.cell? ⟨g,q+k*3+2,none⟩=some (.int .i64 (r.b:Int)):=hcp 2 _ rfl
         have HZ:=Lib.hid (And.intro hbw how)
         clear hbw how hcp
         by_cases htb:t<r.b
         ·have u3:(t:Int)<(r.b:Int):=by omega
          have hct:=HR.out.1 t ht1 htb
          have hTt:T[t]? = some (letC r.c):=by rw[HC.out.2.2.2.2.1,List.getElem?_map,hct];rfl
          obtain⟨hL1,hL2⟩:=List.getElem?_eq_some_iff.1 hTt
          obtain⟨d,hd⟩:∃d,d=letC r.c:=⟨_,rfl⟩
          rw[←hd] at hL2
          have hL:∃h:t<(ByteArray.mk T.toArray).size,(ByteArray.mk T.toArray)[t]'h=d:=⟨hL1,hL2⟩
          obtain⟨hL3,hL4⟩:=hL
          have hc14:r.c<14:=by have:=HR.out.2.2.2.2.2;omega
          obtain⟨hL5,hL6⟩:=letC_get hc14
          rw[←hd] at hL6
          have u5:(r.c:Int)<14:=by omega
          have u6:(0:Int)≤(r.c:Int):=by omega
          have u7:(t:Int)<(l.length:Int):=by omega
          have u8:(0:Int)≤(t:Int):=by omega
          clear hct hTt hL2 hd hget
          go_wp2_with fail
          go_quiet (fail)
          all_goals go_wp2_with fail
          all_goals exact⟨⟨t+1,by omega,by omega,by go_num,below_drewN' HZ.out.1 _,HZ.out.2⟩,by simp[intOf];omega⟩
         ·obtain rfl:t=r.b:=by omega
          go_wp2_with fail
          exact⟨⟨k+1,by omega,by go_num,by rw[HR.out.2.1],HZ.out⟩,by simp[intOf];omega⟩
    ·obtain rfl:k=R.length:=by omega
     have hlast:=HC.out.2.2.1.last
     rw[hlast,HC.out.2.2.2.2.2]
     clear hlast
     go_wp2_with fail
     go_ret
     exact⟨by first|rfl|simp,HW.out.1⟩
end Go.Proofs.YtgdifhhioahakaaGreatDoor
