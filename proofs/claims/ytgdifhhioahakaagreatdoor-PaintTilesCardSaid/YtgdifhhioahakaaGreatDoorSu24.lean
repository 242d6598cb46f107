/- Paint: starts, the walk. -/
import Derived.Test.YtgdifhhioahakaaGreatDoorSs24
namespace Go.Proofs.YtgdifhhioahakaaGreatDoor
open Go.RowKit
set_option linter.unusedVariables false
set_option linter.unusedSimpArgs false
set_option maxRecDepth 100000
theorem run_mk24 (P:Program) (t:TypeId) (w:World):(Instr.makeMap t none).run P w=.ok (.map (some w.heap.size)) (w.alloc (.map #[] 0)):=rfl
set_option maxHeartbeats 4000000 in
theorem starts_m (L:List Nd) (A:Option Addr) (c n:Nat) (w:World) (hL:L.length≤90000) (hn:n=L.length) (hU:∀x∈L,x.up<(L.length:Int)) (hR:Rd w w.heap.size 4 (.slice A n c) n (ndcs L)) :
    Calls Tryz.prog 29 #[.slice A n c] w fun e w'=>∃m q,e=.returned (.map (some m))∧w.heap.size≤m∧IM w' m q (outF L L.length)∧Below w.heap.size w w':=by
  subst hn
  have H0:=Lib.hid (And.intro hR hU)
  clear hR hU
  go_enter Tryz.func29,Tryz.ntmps29
  go_wp2
  rw[run_mk24]
  go_wp2_with fail
  rw[run_mk24]
  go_wp2_with fail
  obtain⟨W0,hW0⟩:∃W0,(w.alloc (.map #[] 0)).alloc (.map #[] 0)=W0:=⟨_,rfl⟩
  have i1:IM W0 w.heap.size 0 (outF L 0):=by rw[←hW0,outF_zero];exact(IM.made w).alloc _
  have i2:IM W0 (w.heap.size+1) 0 (seenF L 0):=by rw[←hW0,seenF_zero];have:=IM.made (w.alloc (.map #[] 0));rwa [World.size_alloc] at this
  have hb0:Below w.heap.size w W0:=by rw[←hW0];exact((Below.refl _ w).alloc (Nat.le_refl _) _).alloc (by simp) _
  rw[hW0]
  have HW:=Lib.hid (And.intro i1 (And.intro i2 hb0))
  clear hW0 i1 i2 hb0
  go_loopw [5,6,7,12] (fun a b d i wr=>∃k n1 n2:Nat,k≤L.length∧i=.int .i64 k∧n1≤k∧n2≤k∧IM wr w.heap.size n1 (outF L k)∧IM wr (w.heap.size+1) n2 (seenF L k)∧Below w.heap.size w wr) (fun a b d i _=>L.length-(intOf i).toNat)
  case atStart=>exact⟨0,0,0,Nat.zero_le _,rfl,Nat.le_refl _,Nat.le_refl _,HW.out.1,HW.out.2.1,HW.out.2.2⟩
  case round=>
    obtain⟨k,n1,n2,hk,rfl,hn1,hn2,hi1,hi2,hb⟩:=hrel
    by_cases hlt:k<L.length
    ·obtain⟨x,hx⟩:∃x,L[k]? = some x:=⟨_,List.getElem?_eq_getElem hlt⟩
     obtain⟨g,o,rfl,_,hc⟩:=rd_sat ndc_len (H0.out.1.keep hb (Nat.le_refl _)) hx rfl
     obtain⟨kd,hkd⟩:∃kd:Int,kd=(x.kd:Int):=⟨_,rfl⟩
     have y0:wr.cell? ⟨g,o+k*4,none⟩=some (.int .i64 kd):=by rw[hkd];exact hc 0 _ rfl
     have y1:wr.cell? ⟨g,o+k*4+1,none⟩=some (.int .i64 (x.fr:Int)):=hc 1 _ rfl
     have y2:wr.cell? ⟨g,o+k*4+2,none⟩=some (.int .i64 (x.tt:Int)):=hc 2 _ rfl
     obtain⟨up,hup⟩:∃up:Int,up=x.up:=⟨_,rfl⟩
     have y3:wr.cell? ⟨g,o+k*4+3,none⟩=some (.int .i64 up):=by rw[hup];exact hc 3 _ rfl
     have u1:(k:Int)<(L.length:Int):=by omega
     have u2:(0:Int)≤(k:Int):=by omega
     by_cases h7:x.kd=7
     ·obtain rfl:kd=7:=by omega
      by_cases h0:x.up<0
      ·have t1:decide (up<0)=true:=by simp;omega
       have HP:=Lib.hid (And.intro hi1 (And.intro hi2 (And.intro hb (And.intro (outF_no (cmdW_skip hx (fun h=>by omega))) (seenF_skip hx (fun h=>by omega))))))
       clear hi1 hi2 hb hc hx hkd hup h0 h7
       go_wp2_with fail
       exact⟨⟨k+1,n1,n2,by omega,by go_num,by omega,by omega,by rw[HP.out.2.2.2.1];exact HP.out.1.alloc _,by rw[HP.out.2.2.2.2];exact HP.out.2.1.alloc _,HP.out.2.2.1.alloc HP.out.2.2.1.size _⟩,by simp[intOf];omega⟩
      ·have t1:decide (up<0)=false:=by simp;omega
       obtain⟨p,rfl⟩:∃p:Nat,up=(p:Int):=⟨up.toNat,by omega⟩
       have hpl:p<L.length:=by have:=H0.out.2 x (List.mem_of_getElem? hx);omega
       obtain⟨u,hu⟩:∃u,L[p]? = some u:=⟨_,List.getElem?_eq_getElem hpl⟩
       obtain⟨g2,o2,hg2,hgB,hc2⟩:=rd_sat ndc_len (H0.out.1.keep hb (Nat.le_refl _)) hu rfl
       cases hg2
       have hgl:g<wr.heap.size:=by have:=hb.size;omega
       obtain⟨uk,huk⟩:∃uk:Int,uk=(u.kd:Int):=⟨_,rfl⟩
       have y4:wr.cell? ⟨g,o+p*4,none⟩=some (.int .i64 uk):=by rw[huk];exact hc2 0 _ rfl
       have u3:(p:Int)<(L.length:Int):=by omega
       have u4:(0:Int)≤(p:Int):=by omega
       have hcm:=cmdW_at hx h7 (by omega) (u:=u) (by rw[←hup,Int.toNat_natCast];exact hu)
       have hsp:=seenF_put hx h7 (by omega)
       rw[←hup] at hcm hsp
       have hle:=seenW_le L (p:Int) k
       have hse:seenF L k (p:Int)=(seenW L (p:Int) k:Int):=by unfold seenF;rw[if_pos u4]
       obtain⟨sn,hsn⟩:∃sn:Int,sn=seenF L k (p:Int):=⟨_,rfl⟩
       have hl2:=(hi2.alloc (.cells #[.int .i64 7,.int .i64 (x.fr:Int),.int .i64 (x.tt:Int),.int .i64 (p:Int)] 76)).look (x:=(p:Int)) (by omega) (by omega)
       rw[←hsn] at hl2 hsp hse
       by_cases k16:uk=16
       ·subst k16
        obtain⟨w7,hr7,hm7,hg7⟩:=(hi1.alloc (.cells #[.int .i64 7,.int .i64 (x.fr:Int),.int .i64 (x.tt:Int),.int .i64 (p:Int)] 76)).put (k:Int) 1 (by omega) (by omega) (by omega) (by omega) (by omega)
        have hi7:IM w7 (w.heap.size+1) n2 (seenF L k):=(hi2.alloc (.cells #[.int .i64 7,.int .i64 (x.fr:Int),.int .i64 (x.tt:Int),.int .i64 (p:Int)] 76)).kept (hg7.block _ (by have:=hi2.lt;simp;omega) (by simp))
        have hk7:=(Bk.new wr 76 #[.int .i64 7,.int .i64 (x.fr:Int),.int .i64 (x.tt:Int),.int .i64 (p:Int)]).grown hg7 (by have:=hb.size;simp;have:=hi1.lt;omega)
        have z3:w7.cell? ⟨wr.heap.size,3,none⟩=some (.int .i64 (p:Int)):=by rw[hk7.cell];rfl
        have hl7:=hi7.look (x:=(p:Int)) (by omega) (by omega)
        rw[←hsn] at hl7
        obtain⟨w8,hr8,hm8,hg8⟩:=hi7.put (p:Int) (sn+1) (by omega) (by omega) (by omega) (by omega) (by omega)
        have v1:IntKind.i64.wrap (sn+1)=sn+1:=IntWalk.i64_in _ (by omega)
        have hyes:outF L (k+1)=setF (outF L k) (k:Int) 1:=outF_put (by rw[hcm,show (u.kd==16)=true by simp;omega];rfl)
        have HP:=Lib.hid (And.intro hb (And.intro hl2 (And.intro hr7 (And.intro hl7 (And.intro hr8 (And.intro hm7 (And.intro hm8 (And.intro hg7 (And.intro hg8 (And.intro hsp hyes))))))))))
        clear hi1 hi2 hb hl2 hr7 hl7 hr8 hm7 hm8 hg7 hg8 hsp hcm hc hc2 hx hu hkd hup h0 h7 hse hsn hi7 hk7 hyes
        go_wp2_with fail
        rw[HP.out.2.2.1]
        go_wp2_with fail
        rw[HP.out.2.2.2.1]
        go_wp2_with fail
        rw[HP.out.2.2.2.2.1]
        go_wp2_with fail
        obtain⟨hb,_,_,_,_,hm7,hm8,hg7,hg8,hsp,hyes⟩:=HP.out
        have hsz:=hb.size
        have hb7:=below_of_grown24 (hb.alloc hsz (.cells #[.int .i64 7,.int .i64 (x.fr:Int),.int .i64 (x.tt:Int),.int .i64 (p:Int)] 76)) hg7 (by simp;omega) (Nat.le_refl _)
        exact⟨⟨k+1,n1+1,n2+1,by omega,by go_num,by omega,by omega,by rw[hyes];exact hm7.kept (hg8.block _ hm7.lt (by simp)),by rw[hsp];exact hm8,below_of_grown24 hb7 hg8 hb7.size (by omega)⟩,by simp[intOf];omega⟩
       ·by_cases k5:uk=5
        ·subst k5
         by_cases s0:sn=0
         ·have t2:(sn==0)=true:=by simp[s0]
          obtain⟨w7,hr7,hm7,hg7⟩:=(hi1.alloc (.cells #[.int .i64 7,.int .i64 (x.fr:Int),.int .i64 (x.tt:Int),.int .i64 (p:Int)] 76)).put (k:Int) 1 (by omega) (by omega) (by omega) (by omega) (by omega)
          have hi7:IM w7 (w.heap.size+1) n2 (seenF L k):=(hi2.alloc (.cells #[.int .i64 7,.int .i64 (x.fr:Int),.int .i64 (x.tt:Int),.int .i64 (p:Int)] 76)).kept (hg7.block _ (by have:=hi2.lt;simp;omega) (by simp))
          have hk7:=(Bk.new wr 76 #[.int .i64 7,.int .i64 (x.fr:Int),.int .i64 (x.tt:Int),.int .i64 (p:Int)]).grown hg7 (by have:=hb.size;simp;have:=hi1.lt;omega)
          have z3:w7.cell? ⟨wr.heap.size,3,none⟩=some (.int .i64 (p:Int)):=by rw[hk7.cell];rfl
          have hl7:=hi7.look (x:=(p:Int)) (by omega) (by omega)
          rw[←hsn] at hl7
          obtain⟨w8,hr8,hm8,hg8⟩:=hi7.put (p:Int) (sn+1) (by omega) (by omega) (by omega) (by omega) (by omega)
          have v1:IntKind.i64.wrap (sn+1)=sn+1:=IntWalk.i64_in _ (by omega)
          have hyes:outF L (k+1)=setF (outF L k) (k:Int) 1:=outF_put (by rw[hcm,show (u.kd==16)=false from beq_false_of_ne (by omega),show (u.kd==5)=true by simp;omega,show (seenW L (p:Int) k==0)=true by simp;omega];rfl)
          have HP:=Lib.hid (And.intro hb (And.intro hl2 (And.intro hr7 (And.intro hl7 (And.intro hr8 (And.intro hm7 (And.intro hm8 (And.intro hg7 (And.intro hg8 (And.intro hsp hyes))))))))))
          clear hi1 hi2 hb hl2 hr7 hl7 hr8 hm7 hm8 hg7 hg8 hsp hcm hc hc2 hx hu hkd hup h0 h7 hse hsn s0 hi7 hk7 hyes
          go_wp2_with fail
          rw[HP.out.2.1]
          go_wp2_with fail
          rw[HP.out.2.2.1]
          go_wp2_with fail
          rw[HP.out.2.2.2.1]
          go_wp2_with fail
          rw[HP.out.2.2.2.2.1]
          go_wp2_with fail
          obtain⟨hb,_,_,_,_,hm7,hm8,hg7,hg8,hsp,hyes⟩:=HP.out
          have hsz:=hb.size
          have hb7:=below_of_grown24 (hb.alloc hsz (.cells #[.int .i64 7,.int .i64 (x.fr:Int),.int .i64 (x.tt:Int),.int .i64 (p:Int)] 76)) hg7 (by simp;omega) (Nat.le_refl _)
          exact⟨⟨k+1,n1+1,n2+1,by omega,by go_num,by omega,by omega,by rw[hyes];exact hm7.kept (hg8.block _ hm7.lt (by simp)),by rw[hsp];exact hm8,below_of_grown24 hb7 hg8 hb7.size (by omega)⟩,by simp[intOf];omega⟩
         ·have t2:(sn==0)=false:=beq_false_of_ne s0
          obtain⟨w8,hr8,hm8,hg8⟩:=(hi2.alloc (.cells #[.int .i64 7,.int .i64 (x.fr:Int),.int .i64 (x.tt:Int),.int .i64 (p:Int)] 76)).put (p:Int) (sn+1) (by omega) (by omega) (by omega) (by omega) (by omega)
          have v1:IntKind.i64.wrap (sn+1)=sn+1:=IntWalk.i64_in _ (by omega)
          have hno:outF L (k+1)=outF L k:=outF_no (by rw[hcm,show (u.kd==16)=false from beq_false_of_ne (by omega),show (seenW L (p:Int) k==0)=false from beq_false_of_ne (by omega),Bool.and_false];rfl)
          have HP:=Lib.hid (And.intro hi1 (And.intro hi2 (And.intro hb (And.intro hl2 (And.intro hr8 (And.intro hm8 (And.intro hg8 (And.intro hsp hno))))))))
          clear hi1 hi2 hb hl2 hr8 hm8 hg8 hsp hcm hc hc2 hx hu hkd hup h0 h7 hse hsn
          go_wp2_with fail
          rw[HP.out.2.2.2.1]
          go_wp2_with fail
          rw[HP.out.2.2.2.1]
          go_wp2_with fail
          rw[HP.out.2.2.2.2.1]
          go_wp2_with fail
          obtain⟨hi1,hi2,hb,_,_,hm8,hg8,hsp,hno⟩:=HP.out
          have hsz:=hb.size
          exact⟨⟨k+1,n1,n2+1,by omega,by go_num,by omega,by omega,by rw[hno];exact(hi1.alloc _).kept (hg8.block _ (by have:=hi1.lt;simp;omega) (by simp)),by rw[hsp];exact hm8,below_of_grown24 (hb.alloc hsz _) hg8 (by simp;omega) (by omega)⟩,by simp[intOf];omega⟩
        ·have t2:(uk==16)=false:=beq_false_of_ne k16
         have t3:(uk==5)=false:=beq_false_of_ne k5
         obtain⟨w8,hr8,hm8,hg8⟩:=(hi2.alloc (.cells #[.int .i64 7,.int .i64 (x.fr:Int),.int .i64 (x.tt:Int),.int .i64 (p:Int)] 76)).put (p:Int) (sn+1) (by omega) (by omega) (by omega) (by omega) (by omega)
         have v1:IntKind.i64.wrap (sn+1)=sn+1:=IntWalk.i64_in _ (by omega)
         have hno:outF L (k+1)=outF L k:=outF_no (by rw[hcm,show (u.kd==16)=false from beq_false_of_ne (by omega),show (u.kd==5)=false from beq_false_of_ne (by omega)];rfl)
         have HP:=Lib.hid (And.intro hi1 (And.intro hi2 (And.intro hb (And.intro hl2 (And.intro hr8 (And.intro hm8 (And.intro hg8 (And.intro hsp hno))))))))
         clear hi1 hi2 hb hl2 hr8 hm8 hg8 hsp hcm hc hc2 hx hu hkd hup h0 h7 hse hsn
         go_wp2_with fail
         rw[HP.out.2.2.2.1]
         go_wp2_with fail
         rw[HP.out.2.2.2.2.1]
         go_wp2_with fail
         obtain⟨hi1,hi2,hb,_,_,hm8,hg8,hsp,hno⟩:=HP.out
         have hsz:=hb.size
         exact⟨⟨k+1,n1,n2+1,by omega,by go_num,by omega,by omega,by rw[hno];exact(hi1.alloc _).kept (hg8.block _ (by have:=hi1.lt;simp;omega) (by simp)),by rw[hsp];exact hm8,below_of_grown24 (hb.alloc hsz _) hg8 (by simp;omega) (by omega)⟩,by simp[intOf];omega⟩
     ·have t1:(kd != 7)=true:=by simp;omega
      have HP:=Lib.hid (And.intro hi1 (And.intro hi2 (And.intro hb (And.intro (outF_no (cmdW_skip hx (fun h=>h7 h.1))) (seenF_skip hx (fun h=>h7 h.1))))))
      clear hi1 hi2 hb hc hx hkd hup h7
      go_wp2_with fail
      exact⟨⟨k+1,n1,n2,by omega,by go_num,by omega,by omega,by rw[HP.out.2.2.2.1];exact HP.out.1.alloc _,by rw[HP.out.2.2.2.2];exact HP.out.2.1.alloc _,HP.out.2.2.1.alloc HP.out.2.2.1.size _⟩,by simp[intOf];omega⟩
    ·obtain rfl:k=L.length:=by omega
     have HP:=Lib.hid (And.intro hi1 (And.intro hi2 hb))
     clear hi1 hi2 hb
     go_wp2_with fail
     go_ret
     exact⟨_,n1,rfl,Nat.le_refl _,HP.out.1,HP.out.2.2⟩
end Go.Proofs.YtgdifhhioahakaaGreatDoor
