/- MotionStops: the walk. -/
import Derived.Test.YtcagfamdoaoimaaGreatDoorZs29
set_option linter.unusedVariables false
set_option linter.unusedSimpArgs false
set_option maxRecDepth 100000
set_option maxHeartbeats 8000000
namespace Go.Proofs.YtcagfamdoaoimaaGreatDoor
section
open Go.RowKit
attribute [local go_sem] Oper.semAt_some
theorem Ii (l:List UInt8) (k:Int) (w:World) (hl0:l.length≤9223372036854775807) (_ : -9223372036854775808≤k∧k≤9223372036854775807) :
    jL 5 #[.string ⟨l.toArray⟩,.int .i64 k] w (.bool true):=by
  by_cases hl:l.length≤60
  ·have hok:=pR l k (by omega);have hst:=fun W=>tp l k hok.c hok.b hok.n hok.l W
   have hrs:=fun p W hp=>sN l p k W (by omega) hp
   have hlen:=hok.len;obtain⟨s1,s2,s3,s4⟩:=wu l k (by omega);unfold xC at hrs s1 s2 s3 s4;obtain⟨S,hS⟩:∃S,S=gU (jy l k) (l.length:Int):=⟨_,rfl⟩;rw[←hS] at hst hrs hlen s1 s2 s3 s4;have hpos:0<S.length:=List.length_pos_of_mem s3;have H:=aa (ac hst (ac hrs (ac s1 s2)));clear hst hrs s1 s2 s3 s4 hok hS;have t0:decide (60<(l.length:Int))=false:=by simp;omega
   go_enter Tryz.func5,Tryz.ntmps5
   go_wp2_with (first
     | (go_at_call 18;refine(oS _).mono ?_;rintro e w1 ⟨rfl,hb⟩;have hsz1:=hb.size;have H1:=aa hb;clear hb)
     | (go_at_call 19;refine(H.out.1 _).mono ?_;rintro e w2 ⟨v2,rfl,ho,hb⟩;obtain⟨A2,n2,c2,rfl⟩:=dR ho;obtain rfl:=ei ho;obtain⟨g,rfl⟩:=jb ho hpos;have H2:=aa (ac ho (H1.out.trans (hb.mono hsz1)));clear ho hb))
   go_loopw [6,7] (fun nn i wr=>∃m q:Nat,m≤S.length∧q≤l.length+1∧nn=.int .i64 m∧i=.int .i64 q∧(∀i,i<m→∀x,S[i]? = some x→x<(q:Int))∧(∀i x,m≤i→S[i]? = some x→(q:Int)≤x)∧wr.ownsRow w1.heap.size 3 1 (.slice (some ⟨g,0,none⟩) S.length c2) S.length (pM S)∧Below w.heap.size w wr) (fun nn i _=>l.length+1-(intOf i).toNat)
   case atStart=>exact⟨0,0,bv _,by omega,rfl,rfl,fun i h=>by omega,fun i x _ h=>(H.out.2.2.2 x (aO h)).1,H2.out⟩
   case round=>
     obtain⟨m,q,hm,hq,rfl,rfl,h1,h2,ho,hb⟩:=hrel;have hszr:=hb.size;by_cases hlt:q≤l.length
     ·have u1:decide ((q:Int)≤(l.length:Int))=true:=by simp;omega
      have cr:=H.out.2.1 q wr hlt;by_cases hin:(q:Int)∈S
      ·rw[aG hin] at cr;have hx:=C4 H.out.2.2.1 h1 h2 hin;obtain⟨hm1,hm2⟩:=ay.1 hx;have t1:decide ((S.length:Int)≤(m:Int))=false:=by simp;omega
       have v1:(0:Int)≤(m:Int):=by omega
       have v2:(m:Int)<(S.length:Int):=by omega
       have g1:∀i,i<m+1→∀x,S[i]? = some x→x<((q+1:Nat):Int):=fun i hi x h=>by
         rcases bZ i m with h3|h3
         ·have:=h1 i h3 x h;omega
         ·obtain rfl:i=m:=by omega
          obtain rfl:=Option.some.inj (h.symm.trans hx);omega
       have g2:∀i x,m+1≤i→S[i]? = some x→((q+1:Nat):Int)≤x:=fun i x hi h=>by
         obtain⟨a1,a2⟩:=ay.1 h
         have:=bN.1 H.out.2.2.1 m i hm1 a1 (by omega)
         omega
       have HC:=aa (ac cr (ac hx (ac g1 g2)));have HW:=aa (ac ho hb);clear cr hx g1 g2 h1 h2 ho hb hin hm2
       go_wp2_with (first
         | (go_at_call 20;with_reducible refine(HC.out.1).mono ?_
            rintro e w5 ⟨rfl,hb5⟩;have ho5:=dS HW.out.1 hb5;have y0:=dW ho5 _ _ (l6 HC.out.2.1);have H5:=aa (ac ho5 (HW.out.2.trans (hb5.mono HW.out.2.size)));clear hb5 ho5)
         | fail)
       exact⟨⟨m+1,q+1,by omega,by omega,by go_num,by go_num,HC.out.2.2.1,HC.out.2.2.2,H5.out⟩,by simp[intOf];omega⟩
      ·rw[aL hin] at cr;have g1:∀i,i<m→∀x,S[i]? = some x→x<((q+1:Nat):Int):=fun i hi x h=>by
         have:=h1 i hi x h;omega
       have g2:∀i x,m≤i→S[i]? = some x→((q+1:Nat):Int)≤x:=fun i x hi h=>by
         have h3:=h2 i x hi h;have h4:x≠(q:Int):=fun e=>hin (e▸aO h)
         omega
       have HC:=aa (ac cr (ac g1 g2));have HW:=aa (ac ho hb);clear cr g1 g2 h1 h2 ho hb hin
       go_wp2_with (first
         | (go_at_call 20;with_reducible refine(HC.out.1).mono ?_
            rintro e w5 ⟨rfl,hb5⟩;have ho5:=dS HW.out.1 hb5;have H5:=aa (ac ho5 (HW.out.2.trans (hb5.mono HW.out.2.size)));clear hb5 ho5)
         | fail)
       exact⟨⟨m,q+1,hm,by omega,rfl,by go_num,HC.out.2.1,HC.out.2.2,H5.out⟩,by simp[intOf];omega⟩
     ·have u1:decide ((q:Int)≤(l.length:Int))=false:=by simp;omega
      have e:m=S.length:=by
        rcases bZ m S.length with h|h
        ·have h3:=h2 m S[m] (au _) (ax h);have h4:=(H.out.2.2.2 _ (List.getElem_mem h)).2;omega
        ·omega
      have HE:=aa hb;clear hb ho h1 h2;subst e;go_wp2_with fail;go_ret;exact⟨by simp,HE.out⟩
  ·have t0:decide (60<(l.length:Int))=true:=by simp;omega
   go_enter Tryz.func5,Tryz.ntmps5;go_wp2_with (
     (go_at_call 18;refine(oS _).mono ?_;rintro e w1 ⟨rfl,hb⟩;have H1:=aa hb;clear hb))
   go_ret;exact⟨rfl,H1.out⟩
end
end Go.Proofs.YtcagfamdoaoimaaGreatDoor
