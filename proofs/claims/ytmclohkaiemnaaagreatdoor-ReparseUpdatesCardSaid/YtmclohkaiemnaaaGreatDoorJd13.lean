/- quillwortref04.Assign: the place that it tells, in every world the same. -/
import Derived.Test.YtmclohkaiemnaaaGreatDoorRh13
import Derived.Test.YtmclohkaiemnaaaGreatDoorNi13
import Derived.Deep.DeepCutAuto
import Derived.Deep.CutBlock
set_option linter.unusedVariables false
set_option linter.unusedSimpArgs false
set_option maxRecDepth 100000
set_option maxHeartbeats 8000000
namespace Go.Proofs.YtmclohkaiemnaaaGreatDoor
section
open Go.RowKit
def zp (l:List UInt8) (k:Nat):Prop:=(k=0∧∀j,1≤j→j<l.length→nm l j=false)∨(1≤k∧k<l.length∧nm l k=true∧∀j,1≤j→j<k→nm l j=false)
theorem zp.yes {l:List UInt8} {k0 k:Nat} (h:zp l k0) (h1:1≤k) (h2:k<l.length) (h3:nm l k=true) (h4:∀j,1≤j→j<k→nm l j=false):k0=k:=by
  rcases h with ⟨rfl,h⟩|⟨a,b,c,d⟩
  ·rw[h k h1 h2] at h3;cases h3
  ·rcases bC k k0 with h5|h5
   ·rw[d k h1 h5] at h3;cases h3
   ·rcases bC k0 k with h6|h6
    ·rw[h4 k0 a h6] at c;cases c
    ·omega
theorem zp.no {l:List UInt8} {k0:Nat} (h:zp l k0) (h1:∀j,1≤j→j<l.length→nm l j=false):k0=0:=by
  rcases h with ⟨rfl,h⟩|⟨a,b,c,d⟩
  ·rfl
  ·rw[h1 k0 a b] at c;cases c
theorem Ks (l:List UInt8):∃k,zp l k:=by
  have key:∀n,n≤l.length→(∀j,1≤j→j<n→nm l j=false)∨∃k,1≤k∧k<n∧nm l k=true∧∀j,1≤j→j<k→nm l j=false:=by
    intro n
    induction n with
    | zero=>intro _;exact .inl fun j _ h=>by omega
    | succ n ih=>
      intro hn;rcases ih (by omega) with h|⟨k,a,b,c,d⟩
      ·cases hc:nm l n
       ·refine .inl fun j h1 h2=>?_
        rcases bC j n with h3|h3
        ·exact h j h1 h3
        ·obtain rfl:j=n:=by omega
         exact hc
       ·by_cases h1:1≤n
        ·exact .inr ⟨n,h1,by omega,hc,h⟩
        ·exact .inl fun j h2 h3=>by omega
      ·exact .inr ⟨k,a,by omega,c,d⟩
  rcases key l.length (au _) with h|⟨k,a,b,c,d⟩
  ·exact⟨0,.inl ⟨rfl,h⟩⟩
  ·exact⟨k,.inr ⟨a,b,c,d⟩⟩
theorem zp.t {l:List UInt8} {k:Nat} (h:zp l k):decide ((0:Int)<(k:Int))=kK l:=by
  rcases h with ⟨rfl,h⟩|⟨a,b,c,d⟩
  ·rw[ML h];rfl
  ·rw[MM a b c];exact aG (by omega)
theorem CJ (l:List UInt8) (k0:Nat) (hM:zp l k0) (w:World) (hl:l.length≤100000):AZ 105 #[.string ⟨l.toArray⟩] w (.int .i64 (k0:Int)):=by
  have HM:=ac hM;clear hM;go_enter Tryz.func105,Tryz.ntmps105;go_wp2;go_loopw [3] (fun i wr=>∃k:Nat,1≤k∧i=.int .i64 k∧wr=w∧∀j,1≤j→j<k→j<l.length→nm l j=false) (fun i _=>l.length+1-(intOf i).toNat)
  case atStart=>exact⟨1,au _,rfl,rfl,fun j h1 h2=>by omega⟩
  case round=>
    obtain⟨k,hk,rfl,rfl,hI⟩:=hrel;have u2:(0:Int)≤(k:Int):=by omega
    by_cases hlt:k<l.length
    ·have u1:(k:Int)<(l.length:Int):=by omega
     obtain⟨d,hd⟩:∃d,l[k]? = some d:=⟨_,ax hlt⟩;obtain⟨g1,g2⟩:=az.1 hd;have g3:(ByteArray.mk l.toArray)[k]'(show k<l.length from g1)=d:=g2;have he:(ByteArray.mk l.toArray).extract 0 k=⟨(l.take k).toArray⟩:=by rw[fq];rfl
     have hn:nm l k=(decide (d=61)&&lR (l.take k)):=by
       unfold nm;rw[hd];by_cases h:d=61
       ·subst h;simp
       ·rw[aE h];simp[h]
     by_cases h61:d=61
     ·have t1:((d.toNat:Int)==61)=true:=by rw[h61];rfl
      obtain⟨b,hb⟩:∃b,b=lR (l.take k):=⟨_,rfl⟩;have hb2:nm l k=b:=by rw[hn,aG h61,hb];rfl
      have c1:∀W,ls 102 #[.string ⟨(l.take k).toArray⟩] W (.bool b):=fun W=>by rw[hb];exact yz _ W (by simp;omega)
      have HX:=ac (ae hI (ae he (ae hb2 c1)));clear hI he hb2 c1 hb hn g2 hd h61
      cases b with
      | true=>
        go_wp2_with (
          (go_at_call 102;first|rw[HX.out.2.1]|skip
           refine(HX.out.2.2.2 _).mono ?_;rintro e w' ⟨rfl,rfl⟩))
        go_ret;exact⟨by rw[HM.out.yes hk hlt HX.out.2.2.1 (fun j h1 h2=>HX.out.1 j h1 h2 (by omega))];rfl,rfl⟩
      | false=>
        go_wp2_with (
          (go_at_call 102;first|rw[HX.out.2.1]|skip
           refine(HX.out.2.2.2 _).mono ?_;rintro e w' ⟨rfl,rfl⟩))
        exact⟨⟨k+1,by omega,by go_num,trivial,fun j h1 h2 h3=>by
          rcases bC j k with h4|h4
          ·exact HX.out.1 j h1 h4 h3
          ·obtain rfl:j=k:=by omega
           exact HX.out.2.2.1⟩,by simp[intOf]<;>omega⟩
     ·have t1:((d.toNat:Int)==61)=false:=aN (fun h=>h61 (dE.1 (by show d.toNat=61;omega)));rw[aE h61,dC] at hn;have HX:=ac (ae hI hn);clear hI he hn g2 hd h61;go_wp2;exact⟨⟨k+1,by omega,by go_num,trivial,fun j h1 h2 h3=>by
        rcases bC j k with h4|h4
        ·exact HX.out.1 j h1 h4 h3
        ·obtain rfl:j=k:=by omega
         exact HX.out.2⟩,by simp[intOf]<;>omega⟩
    ·have u1:¬(k:Int)<(l.length:Int):=by omega
     have HX:=ac hI;clear hI;go_wp2;go_ret;exact⟨by rw[HM.out.no (fun j h1 h2=>HX.out j h1 (by omega) h2)];rfl,rfl⟩
theorem CK (l:List UInt8) (hl:l.length≤100000):∃k:Nat,decide ((0:Int)<(k:Int))=kK l∧∀w,AZ 105 #[.string ⟨l.toArray⟩] w (.int .i64 (k:Int)):=by
  obtain⟨k,h⟩:=Ks l;exact⟨k,h.t,fun w=>CJ l k h w hl⟩
theorem MF (c:UInt8) (h:[123,40,105,119,114,99].contains c=true):∃m,m≤5∧sF c=9+m∧(∀k,k≤5→(((([123,40,105,119,114,99]:List UInt8).getD k 0).toNat:Int)==(c.toNat:Int))=decide (m=k))∧c=([123,40,105,119,114,99]:List UInt8).getD m 0:=by
  have key:∀k,k≤5→k=0∨k=1∨k=2∨k=3∨k=4∨k=5:=fun k h=>by omega
  have h2:c=123∨c=40∨c=105∨c=119∨c=114∨c=99:=by simpa using h
  rcases h2 with rfl|rfl|rfl|rfl|rfl|rfl
  ·exact⟨0,by decide,rfl,fun k hk=>by rcases key k hk with rfl|rfl|rfl|rfl|rfl|rfl<;>rfl,rfl⟩
  ·exact⟨1,by decide,rfl,fun k hk=>by rcases key k hk with rfl|rfl|rfl|rfl|rfl|rfl<;>rfl,rfl⟩
  ·exact⟨2,by decide,rfl,fun k hk=>by rcases key k hk with rfl|rfl|rfl|rfl|rfl|rfl<;>rfl,rfl⟩
  ·exact⟨3,by decide,rfl,fun k hk=>by rcases key k hk with rfl|rfl|rfl|rfl|rfl|rfl<;>rfl,rfl⟩
  ·exact⟨4,by decide,rfl,fun k hk=>by rcases key k hk with rfl|rfl|rfl|rfl|rfl|rfl<;>rfl,rfl⟩
  ·exact⟨5,by decide,rfl,fun k hk=>by rcases key k hk with rfl|rfl|rfl|rfl|rfl|rfl<;>rfl,rfl⟩
section
variable {g:Nat} {fv:Value} {F:List Lf} {L:Ps→Ps} {q:Nat} {s:Ps} {W:World} (hF:FB F) (hL:GL F L) (HL:ss g fv F L q)
include hF hL HL
theorem ue (hq:q≤s.p+1) (hB:Bd F 40 s) (hc:gy F s=true) (h:Nk g fv F s W) :
    vA 101 g fv F W (.tuple #[]) (g9 F L s):=by
  have hn:=hF.n;have hlt:=iP hc;have us:(0:Int)≤(s.p:Int):=by omega
  have H0:=ac (Ny.start h);obtain⟨⟨_,c1,c3,_,_⟩,_⟩:=h.cells;have hsl:=pN F;have hd:=vP hlt;obtain⟨c,hcc⟩:∃c,c=sg F s.p:=⟨_,rfl⟩;rw[←hcc] at hd;obtain⟨Z,hZ⟩:∃Z,Z=ti F:=⟨_,rfl⟩;rw[←hZ] at c1 hd hsl;obtain⟨g1,g2⟩:=az.1 hd;have g3:(ByteArray.mk Z.toArray)[s.p]'(show s.p<Z.length from g1)=c:=g2;have t1:(s.p:Int)<(Z.length:Int):=by omega
  obtain⟨m,hm5,hmk,hme,hmc⟩:=MF c (by rw[hcc];exact((aR _ _).mp hc).2);obtain⟨K,hK⟩:∃K,K=9+m:=⟨_,rfl⟩;have hKn:ie K=true:=by
    have key:m=0∨m=1∨m=2∨m=3∨m=4∨m=5:=by omega
    rcases key with rfl|rfl|rfl|rfl|rfl|rfl<;>(rw[hK];rfl)
  have hK18:(decide (K≤18)&&ie K)=true:=by rw[hKn,aG (by omega)];rfl
  have hdp:s.deep<200:=cW ((aR _ _).mp hc).1;obtain⟨t0,ht0⟩:∃t0,t0=fG K {s with deep:=s.deep+1}:=⟨_,rfl⟩;have hBt:Bd F 41 t0:=by rw[ht0];exact⟨hB.p,by rw[B4];have:=hB.l;show s.l.length+1≤46*s.p+41;omega,by show s.deep+1≤200;omega⟩
  have htp:t0.p=s.p:=by rw[ht0];rfl
  have ht5:(fG K {s with deep:=s.deep+1}).p≤100000:=by show s.p≤_;omega
  obtain⟨T0,hT0⟩:∃T0,T0=dY t0:=⟨_,rfl⟩;have hTB:Bd F 0 T0:=by rw[hT0];exact hBt.next (by omega) (by omega)
  have hqT:q≤T0.p:=by rw[hT0];show q≤t0.p+1;omega
  obtain⟨f,hf⟩:∃f:Ps→Ps,f=fun t=>gH F (lC F L c (dY t)):=⟨_,rfl⟩
  have hx:g9 F L s=jI K f s:=by rw[hf,hK,←hmk,hcc];rfl
  obtain⟨BG,hBG,hG⟩:∃B,B≤1000∧Gd F.length B t0 (f t0):=by
    have gn:=(Gd.next (N:=F.length) (s:=t0) (by omega)).1;have gi:=l6 hL c gn.N;exact⟨0+14+0,by omega,by rw[hf];exact(gn.trans gi).trans (mz gi.N)⟩
  have HX:=ac hx;have HF0:=ac hf;have HG:=ac hG;have HGE:=ac (show Gd F.length BG (fG K {s with deep:=s.deep+1}) (f (fG K {s with deep:=s.deep+1})) by rw[←ht0];exact hG);have HM:=ac (ae hmk (ae hme hmc));have HT0:=ac hT0;have Ht0:=ac ht0;have HE0:=ac (show T0=dY (fG K {s with deep:=s.deep+1}) by rw[hT0,ht0]);have HK:=ac hK;clear hd hZ g2 h hmk hme hcc hmc hx hG hT0 ht0 htp hK hf;go_enter Tryz.func101,Tryz.ntmps101;go_wp2_with fail;go_quiet (fail);have UQ:=ac (H0.out.drew nq);clear c1 c3 g3 g1 t1;go_upto_block 0 with fail
  go_cut [3] (fun v wx=>v=.int .i64 (K:Int)∧W.drewN nq=wx)
  case first=>
    go_wp2_with fail;go_loopw [3,4] (fun v i wr=>∃(k:Nat) (z:Nat),k≤6∧i=.int .i64 k∧v=.int .i64 (z:Int)∧z=(if m<k then 9+m else 9)∧W.drewN nq=wr) (fun v i _=>6-(intOf i).toNat)
    case atStart=>exact⟨0,9,by omega,rfl,rfl,rfl,rfl⟩
    case round=>
      obtain⟨k,z,hk,rfl,rfl,hz,hw⟩:=hrel;subst hw;have HZ:=ac hz;clear hz;have key:k=0∨k=1∨k=2∨k=3∨k=4∨k=5∨k=6:=by omega
      rcases key with rfl|rfl|rfl|rfl|rfl|rfl|rfl
      case inr.inr.inr.inr.inr.inr=>
        go_wp2_with fail;go_meet;exact⟨by rw[HZ.out,aB (by omega),HK.out],rfl⟩
      case inl=>
        have e:((((ByteArray.mk #[123,40,105,119,114,99])[0]'(by decide)).toNat:Int)==(c.toNat:Int))=decide (m=0):=HM.out.2.1 0 (by omega);by_cases hm:m=0
        ·rw[aG hm] at e;clear hm5;go_wp2_with fail;exact⟨⟨1,9,by omega,rfl,rfl,by rw[aB (by omega),hm],trivial⟩,by simp[intOf]⟩
        ·rw[aE hm] at e;go_wp2_with fail;exact⟨⟨1,z,by omega,rfl,rfl,by rw[HZ.out];by_cases h9:m<0;(rw[aB h9,aB (by omega)]);(rw[aC h9,aC (by omega)]),trivial⟩,by simp[intOf]⟩
      case inr.inl=>
        have e:((((ByteArray.mk #[123,40,105,119,114,99])[1]'(by decide)).toNat:Int)==(c.toNat:Int))=decide (m=1):=HM.out.2.1 1 (by omega);by_cases hm:m=1
        ·rw[aG hm] at e;clear hm5;go_wp2_with fail;exact⟨⟨2,10,by omega,rfl,rfl,by rw[aB (by omega),hm],trivial⟩,by simp[intOf]⟩
        ·rw[aE hm] at e;go_wp2_with fail;exact⟨⟨2,z,by omega,rfl,rfl,by rw[HZ.out];by_cases h9:m<1;(rw[aB h9,aB (by omega)]);(rw[aC h9,aC (by omega)]),trivial⟩,by simp[intOf]⟩
      case inr.inr.inl=>
        have e:((((ByteArray.mk #[123,40,105,119,114,99])[2]'(by decide)).toNat:Int)==(c.toNat:Int))=decide (m=2):=HM.out.2.1 2 (by omega);by_cases hm:m=2
        ·rw[aG hm] at e;clear hm5;go_wp2_with fail;exact⟨⟨3,11,by omega,rfl,rfl,by rw[aB (by omega),hm],trivial⟩,by simp[intOf]⟩
        ·rw[aE hm] at e;go_wp2_with fail;exact⟨⟨3,z,by omega,rfl,rfl,by rw[HZ.out];by_cases h9:m<2;(rw[aB h9,aB (by omega)]);(rw[aC h9,aC (by omega)]),trivial⟩,by simp[intOf]⟩
      case inr.inr.inr.inl=>
        have e:((((ByteArray.mk #[123,40,105,119,114,99])[3]'(by decide)).toNat:Int)==(c.toNat:Int))=decide (m=3):=HM.out.2.1 3 (by omega);by_cases hm:m=3
        ·rw[aG hm] at e;clear hm5;go_wp2_with fail;exact⟨⟨4,12,by omega,rfl,rfl,by rw[aB (by omega),hm],trivial⟩,by simp[intOf]⟩
        ·rw[aE hm] at e;go_wp2_with fail;exact⟨⟨4,z,by omega,rfl,rfl,by rw[HZ.out];by_cases h9:m<3;(rw[aB h9,aB (by omega)]);(rw[aC h9,aC (by omega)]),trivial⟩,by simp[intOf]⟩
      case inr.inr.inr.inr.inl=>
        have e:((((ByteArray.mk #[123,40,105,119,114,99])[4]'(by decide)).toNat:Int)==(c.toNat:Int))=decide (m=4):=HM.out.2.1 4 (by omega);by_cases hm:m=4
        ·rw[aG hm] at e;clear hm5;go_wp2_with fail;exact⟨⟨5,13,by omega,rfl,rfl,by rw[aB (by omega),hm],trivial⟩,by simp[intOf]⟩
        ·rw[aE hm] at e;go_wp2_with fail;exact⟨⟨5,z,by omega,rfl,rfl,by rw[HZ.out];by_cases h9:m<4;(rw[aB h9,aB (by omega)]);(rw[aC h9,aC (by omega)]),trivial⟩,by simp[intOf]⟩
      case inr.inr.inr.inr.inr.inl=>
        have e:((((ByteArray.mk #[123,40,105,119,114,99])[5]'(by decide)).toNat:Int)==(c.toNat:Int))=decide (m=5):=HM.out.2.1 5 (by omega);by_cases hm:m=5
        ·rw[aG hm] at e;clear hm5;go_wp2_with fail;exact⟨⟨6,14,by omega,rfl,rfl,by rw[aB (by omega),hm],trivial⟩,by simp[intOf]⟩
        ·rw[aE hm] at e;go_wp2_with fail;exact⟨⟨6,z,by omega,rfl,rfl,by rw[HZ.out];by_cases h9:m<5;(rw[aB h9,aB (by omega)]);(rw[aC h9,aC (by omega)]),trivial⟩,by simp[intOf]⟩
  case rest=>
    obtain⟨rfl,rfl⟩:=hcut;go_upto_block 2 with (
      (go_at_call 21;with_reducible refine Ny.inc UQ ht5 (ze hF K hK18 (hB.mono (by omega))) fun w1 gw1 dw1 kw1 vw1 A0=>?_
       have A1:=Ny.cast A0 HE0.out))
    go_cut [] (fun wx=>Ny g fv F W (lC F L c T0) wx)
    case first=>
      have key:m=0∨m=1∨m=2∨m=3∨m=4∨m=5:=by omega
      rcases key with rfl|rfl|rfl|rfl|rfl|rfl
      ·obtain rfl:K=9:=HK.out;obtain rfl:c=123:=HM.out.2.2;clear hm5;have hgb:=fy hL hTB.p;have hBb:=hTB.gd hgb;have hqb:q≤(eI F L T0).p:=aA hqT hgb.p
       go_wp2_with (first
         | (go_at_call 103;with_reducible refine Ny.go B1 (jK hF (hBb.mono (by omega)) 125 (by decide)) fun b2 B2=>?_)
         | (go_at_call 123;with_reducible refine Ny.go A1 (mW hF HL hqT (hTB.mono (by omega))) fun b1 B1=>?_)
         | fail)
       go_meet
       exact(Ny.cast B2 (show lC F L 123 T0=eE F 125 (eI F L T0) from rfl)).out
      ·obtain rfl:K=10:=HK.out;obtain rfl:c=40:=HM.out.2.2;clear hm5;have hgb:=fy hL hTB.p;have hBb:=hTB.gd hgb;have hqb:q≤(eI F L T0).p:=aA hqT hgb.p
       go_wp2_with (first
         | (go_at_call 103;with_reducible refine Ny.go B1 (jK hF (hBb.mono (by omega)) 41 (by decide)) fun b2 B2=>?_)
         | (go_at_call 123;with_reducible refine Ny.go A1 (mW hF HL hqT (hTB.mono (by omega))) fun b1 B1=>?_)
         | fail)
       go_meet
       exact(Ny.cast B2 (show lC F L 40 T0=eE F 41 (eI F L T0) from rfl)).out
      ·obtain rfl:K=11:=HK.out;obtain rfl:c=105:=HM.out.2.2;clear hm5;have hgb:=fy hL hTB.p;have hBb:=hTB.gd hgb;have hqb:q≤(eI F L T0).p:=aA hqT hgb.p;have hg2:=fp (F:=F) (c:=116) (by decide) hBb.p;have hB2:=hBb.gd hg2;have hq2:q≤(eE F 116 (eI F L T0)).p:=aA hqb hg2.p;have hg3:=fy hL hB2.p;have hB3:=hB2.gd hg3;have hq3:q≤(eI F L (eE F 116 (eI F L T0))).p:=aA hq2 hg3.p
       go_wp2_with (first
         | (go_at_call 123;with_reducible refine Ny.go B2 (mW hF HL hq2 (hB2.mono (by omega))) fun b3 B3=>?_)
         | (go_at_call 103;with_reducible refine Ny.go B1 (jK hF (hBb.mono (by omega)) 116 (by decide)) fun b2 B2=>?_)
         | (go_at_call 123;with_reducible refine Ny.go A1 (mW hF HL hqT (hTB.mono (by omega))) fun b1 B1=>?_)
         | fail)
       go_loopw [] (fun wr=>∃u:Ps,q≤u.p∧Bd F 9 u∧(eV F.length (fun s=>if ef F [101] s=true then (eI F L (eE F 116 (eI F L (dY s))),true) else (s,false))) u=(eV F.length (fun s=>if ef F [101] s=true then (eI F L (eE F 116 (eI F L (dY s))),true) else (s,false))) (eI F L (eE F 116 (eI F L T0)))∧Ny g fv F W u wr) (fun wr=>F.length-pOn g wr)
       case atStart=>exact⟨_,hq3,hB3,rfl,B3.out⟩
       case round=>
         obtain⟨u,hqu,hBu,hlu,hz⟩:=hrel;have U0:=ac hz;have HU:=ac hlu;have HP:=ac hz.m.pOn;have hup:=hBu.p;clear hz hlu
         cases hc:ef F [101] u
         ·have HE:=ac (HU.out.symm.trans (LC.gon (iZ hL) hBu.p (t:=u) (by show (if _ then _ else _)=_;rw[aC (by rw[hc];decide)])))
          cases hd:ef F [108] u
          ·go_wp2_with (first
             | (go_at_call 103;with_reducible refine Ny.go D2 (jK hF (hBu.mono (by omega)) 102 (by decide)) fun d3 D3=>?_)
             | (go_at_call 22;with_reducible refine Ny.go D1 (fw false hF hup [108] (by decide) hd) fun d2 D2=>?_)
             | (go_at_call 22;with_reducible refine Ny.go U0 (fw false hF hup [101] (by decide) hc) fun d1 D1=>?_)
             | fail)
           go_meet
           exact(Ny.cast D3 (show lC F L 105 T0=eE F 102 u by show ki F L T0=_;unfold ki;rw[HE.out];simp only[hd,bp,aH])).out
          ·have hltl:=er hd (by decide);have hnl:=hBu.next hltl (by omega);have hql:q≤(dY u).p:=aA hqu (bW _);have hgl:=fy hL hnl.p;have hBl:=hnl.gd hgl
           go_wp2_with (first
             | (go_at_call 103;with_reducible refine Ny.go D3 (jK hF (hBl.mono (by omega)) 102 (by decide)) fun d4 D4=>?_)
             | (go_at_call 123;with_reducible refine Ny.go D2 (mW hF HL hql (hnl.mono (by omega))) fun d3 D3=>?_)
             | (go_at_call 22;with_reducible refine Ny.inc D1 (by omega) (fw true hF hup [108] (by decide) hd) fun d2 gd2 dd2 kd2 vd2 D2=>?_)
             | (go_at_call 22;with_reducible refine Ny.go U0 (fw false hF hup [101] (by decide) hc) fun d1 D1=>?_)
             | fail)
           go_meet
           exact(Ny.cast D4 (show lC F L 105 T0=eE F 102 (eI F L (dY u)) by show ki F L T0=_;unfold ki;rw[HE.out];simp only[hd,bP])).out
         ·have hlt4:=er hc (by decide);have hn4:=hBu.next hlt4 (by omega);have hq4:q≤(dY u).p:=aA hqu (bW _);have hg4:=fy hL hn4.p;have hB4:=hn4.gd hg4;have hq5:=aA hq4 hg4.p;have hg5:=fp (F:=F) (c:=116) (by decide) hB4.p;have hB5:=hB4.gd hg5;have hq6:=aA hq5 hg5.p;have hy:=(iZ hL u hBu.p).yy (t:=eI F L (eE F 116 (eI F L (dY u)))) (by rw[aB hc]);have HE:=ac ((LC.goy (iZ hL) hBu.p (t:=eI F L (eE F 116 (eI F L (dY u)))) (by show (if _ then _ else _)=_;rw[aB hc])).symm.trans HU.out)
          go_wp2_with (first
            | (go_at_call 123;with_reducible refine Ny.go D3 (mW hF HL hq6 (hB5.mono (by omega))) fun d4 D4=>?_)
            | (go_at_call 103;with_reducible refine Ny.go D2 (jK hF (hB4.mono (by omega)) 116 (by decide)) fun d3 D3=>?_)
            | (go_at_call 123;with_reducible refine Ny.go D1 (mW hF HL hq4 (hn4.mono (by omega))) fun d2 D2=>?_)
            | (go_at_call 22;with_reducible refine Ny.inc U0 (by omega) (fw true hF hup [101] (by decide) hc) fun d1 gd1 dd1 kd1 vd1 D1=>?_)
            | fail)
          refine⟨⟨_,aA hqu (aM hy.2),hBu.gd hy.1,HE.out,D4.out⟩,?_⟩;rw[D4.out.m.pOn,HP.out]
          have:=hy.2
          have:=hy.1.N
          omega
      ·obtain rfl:K=12:=HK.out;obtain rfl:c=119:=HM.out.2.2;clear hm5;have hgb:=fy hL hTB.p;have hBb:=hTB.gd hgb;have hqb:q≤(eI F L T0).p:=aA hqT hgb.p
       go_wp2_with (first
         | (go_at_call 124;with_reducible refine Ny.go B1 (rM hF hL HL hqb (hBb.mono (by omega))) fun b2 B2=>?_)
         | (go_at_call 123;with_reducible refine Ny.go A1 (mW hF HL hqT (hTB.mono (by omega))) fun b1 B1=>?_)
         | fail)
       go_meet
       exact(Ny.cast B2 (show lC F L 119 T0=vp F L (eI F L T0) from rfl)).out
      ·obtain rfl:K=13:=HK.out;obtain rfl:c=114:=HM.out.2.2;clear hm5;go_wp2_with (
         (go_at_call 125;with_reducible refine Ny.go A1 (NJ hF hL HL hqT hTB) fun b1 B1=>?_))
       go_meet
       exact(Ny.cast B1 (show lC F L 114 T0=gR F L T0 from rfl)).out
      ·obtain rfl:K=14:=HK.out;obtain rfl:c=99:=HM.out.2.2;clear hm5;go_wp2_with (
         (go_at_call 126;with_reducible refine Ny.go A1 (Kj hF hL HL hqT hTB) fun b1 B1=>?_))
       go_meet
       exact(Ny.cast B1 (show lC F L 99 T0=ji F L T0 from rfl)).out
    case rest=>
      have I0:=ac hcut;clear hcut;have hgi:=l6 hL c hTB.p;have hBI:=hTB.gd hgi;obtain⟨I,hI⟩:∃I,I=lC F L c T0:=⟨_,rfl⟩;rw[←hI] at I0 hBI;have HI:=ac hI;clear hI hgi;go_wp2_with fail;go_loopw [] (fun wr=>∃u:Ps,Bd F 14 u∧(eV F.length (fun s=>if eS F s=true then (fH F s,true) else (s,false))) u=(eV F.length (fun s=>if eS F s=true then (fH F s,true) else (s,false))) I∧Ny g fv F W u wr) (fun wr=>F.length-pOn g wr)
      case atStart=>exact⟨_,hBI,rfl,I0.out⟩
      case round=>
        obtain⟨u,hBu,hlu,hz⟩:=hrel;have U0:=ac hz;have HU:=ac hlu;have HP:=ac hz.m.pOn;have hup:=hBu.p;clear hz hlu
        cases hb:eS F u
        ·have HE:=ac (HU.out.symm.trans (LC.gon iV hBu.p (t:=u) (by show (if _ then _ else _)=_;rw[aC (by rw[hb];decide)])));have HF:=ac (show f (fG K {s with deep:=s.deep+1})=u by rw[←Ht0.out];rw[HF0.out];show gH F (lC F L c (dY t0))=u;rw[←HT0.out];show gH F (lC F L c T0)=u;rw[←HI.out];exact HE.out)
         go_wp2_with (first
           | (go_at_call 26;with_reducible refine Ny.go (Ny.cast E1 HF.out) (Gs hF K f hKn (hB.mono (by omega)) HGE.out (by omega)) fun e2 E2=>?_)
           | (go_at_call 66;with_reducible refine Ny.go U0 (nB hF false hup hb) fun e1 E1=>?_)
           | fail)
         first|go_end0|refine bn ?_
         exact⟨rfl,by rw[HX.out];exact E2.out⟩
        ·have hy:=(iV (F:=F) u hBu.p).yy (t:=fH F u) (by rw[aB hb]);have HE:=ac ((LC.goy iV hBu.p (t:=fH F u) (by show (if _ then _ else _)=_;rw[aB hb])).symm.trans HU.out)
         go_wp2_with (first
           | (go_at_call 104;with_reducible refine Ny.go E1 (tq hF (hBu.mono (by omega)) hb) fun e2 E2=>?_)
           | (go_at_call 66;with_reducible refine Ny.go U0 (nB hF true hup hb) fun e1 E1=>?_)
           | fail)
         refine⟨⟨_,hBu.gd hy.1,HE.out,E2.out⟩,?_⟩;rw[E2.out.m.pOn,HP.out]
         have:=hy.2
         have:=hy.1.N
         omega
end
theorem LH {F:List Lf} {i:Nat} (h:F.length≤i):sg F i=0:=by unfold sg;rw[bI h]
theorem xE {F:List Lf} {u:Ps} (hs:u.p≤F.length) (hb:eS F u=true):fV F u=fV F (fH F u):=by
  unfold fV;rw[LC.goy (ib (F:=F)) hs (t:=fH F u) (by rw[aB hb])]
theorem CB {F:List Lf} {u:Ps} (hs:u.p≤F.length) (hb:eS F u=false) (hw:iw F u.p=true) (ha:kK (tx F u.p)=true):fV F u=fV F (eD 6 u):=by
  unfold fV;rw[LC.goy (ib (F:=F)) hs (t:=eD 6 u) (by rw[aC (by rw[hb];decide),aB (by rw[hw,ha];rfl)])]
theorem zM {F:List Lf} {u:Ps} (hs:u.p≤F.length) (hb:eS F u=false) (hw:iw F u.p=true) (ha:kK (tx F u.p)=false):fV F u=ir F (eD 7 u):=by
  unfold fV;rw[LC.gon (ib (F:=F)) hs (t:=u) (by rw[aC (by rw[hb];decide),aC (by rw[hw,ha];decide)])];simp only[hw,bP]
theorem Cz {F:List Lf} {u:Ps} (hs:u.p≤F.length) (hb:eS F u=false) (hw:iw F u.p=false):fV F u=u:=by
  unfold fV;rw[LC.gon (ib (F:=F)) hs (t:=u) (by rw[aC (by rw[hb];decide),aC (by rw[hw,dC];decide)])];simp only[hw,bp,aH]
theorem vO {F:List Lf} {u:Ps} (hs:u.p≤F.length) (hb:eS F u=true):ir F u=ir F (fH F u):=LC.goy (jy (F:=F)) hs (by rw[aB hb])
theorem xF {F:List Lf} {u:Ps} (hs:u.p≤F.length) (hb:eS F u=false) (hw:iw F u.p=true):ir F u=ir F (eD 7 u):=LC.goy (jy (F:=F)) hs (by rw[aC (by rw[hb];decide),aB hw])
theorem zN {F:List Lf} {u:Ps} (hs:u.p≤F.length) (hb:eS F u=false) (hw:iw F u.p=false):ir F u=u:=LC.gon (jy (F:=F)) hs (by rw[aC (by rw[hb];decide),aC (by rw[hw];decide)])
def xD (F:List Lf) (n:Nat) (u:Ps):Ps:=if n=0 then fV F u else ir F u
theorem JR {F:List Lf} {s:Ps} (h:lr F s=false):gy F s=false∧lD F s=false:=by
  unfold lr at h;rw[Bool.or_eq_false_iff,Bool.or_eq_false_iff] at h;refine⟨h.2.2,?_⟩;unfold lD;rw[h.1,dC]
theorem LP (l:List UInt8) (hl:l.length≤100000) (W:World):∃k:Int,decide (0<k)=kK l∧∀n,Calls Tryz.prog 105 #[.string ⟨l.toArray⟩] (W.drewN n) fun e w'=>e=.returned (.int .i64 k)∧∃m,w'=W.drewN m:=by
  obtain⟨k,h1,h2⟩:=CK l hl;exact⟨k,h1,fun n=>(h2 (W.drewN n)).mono fun e w' ⟨a,b⟩=>⟨a,n,b⟩⟩
theorem Kf {F:List Lf} {s:Ps} (h:lr F s=true):s.p<F.length:=lK (by unfold eN;rw[h,Bool.or_true])
section
variable {g:Nat} {fv:Value} {F:List Lf} {L:Ps→Ps} {q:Nat} {s:Ps} {W:World} (hF:FB F) (hL:GL F L) (HL:ss g fv F L q)
include hF hL HL
theorem vt (hq:q≤s.p+1) (hB:Bd F 24 s) (h:Nk g fv F s W) :
    vA 87 g fv F W (.tuple #[]) (iL F L s):=by
  have hn:=hF.n;have hp:=hB.p;have H0:=ac (Ny.start h);clear h
  cases hcm:lr F s
  ·obtain⟨hcp,hfn⟩:=JR hcm;have HX:=ac (show iL F L s=fe s by unfold iL;rw[aC (by rw[hcp];decide),aC (by rw[hfn];decide),aC (by rw[hcm];decide)]);go_enter Tryz.func87,Tryz.ntmps87
   go_wp2_with (first
     | (go_at_call 69;with_reducible refine Ny.go H1 (nH hF (hB.mono (by omega))) fun w2 H2=>?_)
     | (go_at_call 45;with_reducible refine Ny.go H0 (Cg hF false hp hcm) fun w1 H1=>?_)
     | fail)
   first|go_end0|refine bn ?_
   exact⟨rfl,by rw[HX.out];exact H2.out⟩
  ·cases hcp:gy F s
   ·have hlt:=Kf hcm;obtain⟨x,hx⟩:∃x,F[s.p]? = some x:=⟨_,ax hlt⟩;have hxl:=hF.t x (aI hx);have hfb:lD F s=(ef F [120] s&&(sg F (s.p+1)==40&&(decide (s.deep<200)&&iC x.tx))):=by unfold lD;rw[jF,DI hx]
    obtain⟨b,hbe⟩:∃b,b=lD F s:=⟨_,rfl⟩;have HB:=ac hbe;clear hbe;go_enter Tryz.func87,Tryz.ntmps87
    go_upto_region 4 with (first
      | (go_at_call 67;with_reducible refine Ny.go H1 (wQ hF false hp hcp) fun w2 H2=>?_)
      | (go_at_call 45;with_reducible refine Ny.go H0 (Cg hF true hp hcm) fun w1 H1=>?_)
      | fail)
    go_cut [62] (fun v wx=>v=.bool b∧Ny g fv F W s wx)
    case first=>
      have q1:=qg hF hp [120] (by decide) H2.out.m;have q2:=wC x.tx _ rfl (by omega) w2;obtain⟨g1,o1,c,y0,y3,y1,y2⟩:=H2.out.m.wc hx;obtain⟨⟨_,c1,_,_,c5⟩,_⟩:=H2.out.m.cells;have hT:s.p+1<F.length→(ti F)[s.p+1]? = some (sg F (s.p+1)):=fun h=>vP h
      have hsl:=pN F;obtain⟨Z,hZ⟩:∃Z,Z=ti F:=⟨_,rfl⟩;rw[←hZ] at c1 hsl hT;obtain⟨i,hi⟩:∃i,i=s.p+1:=⟨_,rfl⟩;have v1:IntKind.i64.wrap ((s.p:Int)+1)=(i:Int):=by rw[aO _ (by omega)];omega
      rw[←hi] at hT hfb;obtain⟨dz,hdz⟩:∃z:Int,z=(s.deep:Int):=⟨_,rfl⟩;rw[←hdz] at c5;have u0:(0:Int)≤(i:Int):=by omega
      have us:(0:Int)≤(s.p:Int):=by omega
      have u1:(s.p:Int)<(F.length:Int):=by omega
      obtain⟨nb,hnb⟩:∃nb,nb=iC x.tx:=⟨_,rfl⟩;rw[←hnb] at q2 hfb;have key:ef F [120] s=false∨(ef F [120] s=true∧¬i<F.length)∨(ef F [120] s=true∧i<F.length∧(sg F i==40)=false)∨(ef F [120] s=true∧i<F.length∧(sg F i==40)=true∧¬s.deep<200)∨(ef F [120] s=true∧i<F.length∧(sg F i==40)=true∧s.deep<200):=by
        by_cases h1:i<F.length<;>by_cases h2:s.deep<200<;>cases ef F [120] s<;>cases (sg F i==40)<;>simp[h1,h2]
      have HFB:=ac hfb;clear hfb hnb hZ hx;rcases key with h1|⟨h1,h2⟩|⟨h1,h2,h3⟩|⟨h1,h2,h3,h4⟩|⟨h1,h2,h3,h4⟩
      case' inl=>
        have HV:=ac (show b=false by rw[HB.out,HFB.out,h1];rfl);clear hT
      case' inr.inl=>
        have HV:=ac (show b=false by rw[HB.out,HFB.out,LH (by omega),h1];rfl);have t2:decide ((i:Int)<(Z.length:Int))=false:=aE (by omega);have t3:decide (i<Z.length)=false:=aE (by omega);clear hT
      case' inr.inr.inl=>
        have HV:=ac (show b=false by rw[HB.out,HFB.out,h1,h3];rfl);obtain⟨d,hdd⟩:∃d,d=sg F i:=⟨_,rfl⟩;have k1:=hT h2;rw[←hdd] at k1 h3;obtain⟨g4,g5⟩:=az.1 k1;have g6:(ByteArray.mk Z.toArray)[i]'(show i<Z.length from g4)=d:=g5;have k2:((d.toNat:Int)==40)=(d==40):=iT d 40;rw[h3] at k2;have t2:decide ((i:Int)<(Z.length:Int))=true:=aG (by omega);have t3:decide (i<Z.length)=true:=aG g4;clear hdd k1 g5 h3 hT
      case' inr.inr.inr.inl=>
        have HV:=ac (show b=false by rw[HB.out,HFB.out,h1,h3,aE h4];rfl);have t6:decide (dz<200)=false:=aE (by omega);obtain⟨d,hdd⟩:∃d,d=sg F i:=⟨_,rfl⟩;have k1:=hT h2;rw[←hdd] at k1 h3;obtain⟨g4,g5⟩:=az.1 k1;have g6:(ByteArray.mk Z.toArray)[i]'(show i<Z.length from g4)=d:=g5;have k2:((d.toNat:Int)==40)=(d==40):=iT d 40;rw[h3] at k2;have t2:decide ((i:Int)<(Z.length:Int))=true:=aG (by omega);have t3:decide (i<Z.length)=true:=aG g4;clear hdd k1 g5 h3 hT
      case' inr.inr.inr.inr=>
        have HV:=ac (show b=nb by rw[HB.out,HFB.out,h1,h3,aG h4];rfl);have t6:decide (dz<200)=true:=aG (by omega);obtain⟨d,hdd⟩:∃d,d=sg F i:=⟨_,rfl⟩;have k1:=hT h2;rw[←hdd] at k1 h3;obtain⟨g4,g5⟩:=az.1 k1;have g6:(ByteArray.mk Z.toArray)[i]'(show i<Z.length from g4)=d:=g5;have k2:((d.toNat:Int)==40)=(d==40):=iT d 40;rw[h3] at k2;have t2:decide ((i:Int)<(Z.length:Int))=true:=aG (by omega);have t3:decide (i<Z.length)=true:=aG g4;clear hdd k1 g5 h3 hT
      all_goals (
        rw[h1] at q1;have HQ:=ac (ae q1 q2);clear q1 q2 h1 hdz hi;go_wp2_with fail
        go_quiet (first
          | (go_at_call 22;with_reducible exact HQ.out.1 _)
          | (go_at_call 102;with_reducible exact HQ.out.2 _)
          | fail)
        go_wp2_with fail;go_meet;exact⟨by rw[HV.out],H2.out.drew nq⟩)
    case rest=>
      obtain⟨rfl,hz⟩:=hcut;have J0:=ac hz;clear hz hfb hx
      cases b
      ·have hfun:lD F s=false:=HB.out.symm;have HX:=ac (show iL F L s=eh 5 (fV F) s by unfold iL;rw[aC (by rw[hcp];decide),aC (by rw[hfun];decide),aB hcm]);have hi:=hB.inn 5;have HGE:=ac (wK (F:=F) hi.p);obtain⟨X,hX⟩:∃X,X=fV F (fG 5 s):=⟨_,rfl⟩;have HXX:=ac hX;clear hX hfun;go_wp2_with (
         (go_at_call 21;with_reducible refine Ny.go J0 (kJ hF 5 (by decide) (hB.mono (by omega))) fun a1 A1=>?_))
       go_loopw [4] (fun v wr=>∃(u:Ps) (n:Nat),v=.int .i64 (n:Int)∧n≤u.p∧Bd F 25 u∧xD F n u=X∧Ny g fv F W u wr) (fun v wr=>F.length-pOn g wr)
       case atStart=>exact⟨_,0,rfl,bq _,hi,by rw[HXX.out];rfl,A1.out⟩
       case round=>
         obtain⟨u,n,rfl,hnu,hBu,hU,hz⟩:=hrel;have U0:=ac hz;have HU:=ac hU;have HP:=ac hz.m.pOn;have hup:=hBu.p;have uu:(0:Int)≤(u.p:Int):=by omega
         clear hU hz
         cases hb:eS F u
         case true=>
           have hy:=(iV (F:=F) u hBu.p).yy (t:=fH F u) (by rw[aB hb]);have HE:=ac (show xD F n (fH F u)=X by rw[←HU.out];unfold xD;rw[xE hup hb,vO hup hb])
           go_wp2_with (first
             | (go_at_call 104;with_reducible refine Ny.go E1 (tq hF (hBu.mono (by omega)) hb) fun e2 E2=>?_)
             | (go_at_call 66;with_reducible refine Ny.go U0 (nB hF true hup hb) fun e1 E1=>?_)
             | fail)
           refine⟨⟨_,n,rfl,aA hnu (aM hy.2),hBu.gd hy.1,HE.out,E2.out⟩,?_⟩;rw[E2.out.m.pOn,HP.out]
           have:=hy.2
           have:=hy.1.N
           omega
         case false=>
           go_upto_region 18 with (
             (go_at_call 66;with_reducible refine Ny.go U0 (nB hF false hup hb) fun r1 R1=>?_))
           by_cases hlu:u.p<F.length
           case' pos=>
             obtain⟨x2,hx2⟩:∃x,F[u.p]? = some x:=⟨_,ax hlu⟩;have hw:=rG hx2;have htx:=DI hx2;have hxl2:=hF.t x2 (aI hx2);obtain⟨g2,o2,c2,z0,z3,z1,z2⟩:=R1.out.m.wc hx2;have ul:(u.p:Int)<(F.length:Int):=by omega
             have d2:decide ((u.p:Int)<(F.length:Int))=true:=aG ul
             cases hkd:(x2.kd==6)
             case' true=>
               rw[hkd] at hw;have hlf6:=fR (F:=F) (k:=6) hlu;have hlf7:=fR (F:=F) (k:=7) hlu;go_wp2_with fail;go_quiet (fail);have R2:=ac (R1.out.drew nq);clear z0 z1 z2 z3 d2;generalize r1.drewN nq=r2 at R2 ⊢;obtain⟨g2,o2,c2,z0,z3,z1,z2⟩:=R2.out.m.wc hx2;obtain⟨k,hk1,hk2⟩:=LP x2.tx (by omega) r2;have HK:=ac hk2;clear hk2 hx2;by_cases hn0:n=0
               ·have t0:((n:Int)==0)=true:=by rw[hn0];rfl
                have HN0:=ac hn0;have HT2:=ac (show IntKind.i64.wrap ((n:Int)+1)=(n:Int)+1 from aO _ (by omega));have hnp:n+1≤(eD 7 u).p:=bF hnu;clear hn0
                cases ha:kK x2.tx
                ·have HT1:=ac (show decide (0<k)=false by rw[hk1,ha]);have HE:=ac (show xD F (n+1) (eD 7 u)=X by rw[←HU.out,HN0.out];show ir F (eD 7 u)=fV F u;rw[zM hup hb hw (by rw[htx,ha])]);clear hk1 ha;go_wp2_with fail;have t1:_:=HT1.out;go_quiet (
                   (go_at_call 105;with_reducible exact HK.out _))
                 have R3:=ac (R2.out.drew nq);have t2:_:=HT2.out;go_wp2_with (
                   (go_at_call 25;with_reducible refine Ny.go R3 (qe hF (k:=7) (by decide) (hBu.mono (by omega)) hlu) fun e2 E2=>?_))
                 refine⟨⟨_,n+1,rfl,hnp,hBu.gd hlf7.2.2,HE.out,E2.out⟩,?_⟩;rw[E2.out.m.pOn,HP.out];show F.length-(u.p+1)<F.length-u.p;omega
                ·have HT1:=ac (show decide (0<k)=true by rw[hk1,ha]);have HE:=ac (show xD F n (eD 6 u)=X by rw[←HU.out,HN0.out];show fV F (eD 6 u)=fV F u;rw[CB hup hb hw (by rw[htx,ha])]);clear hk1 ha;go_wp2_with fail;have t1:_:=HT1.out;go_quiet (
                   (go_at_call 105;with_reducible exact HK.out _))
                 have R3:=ac (R2.out.drew nq);have t2:_:=HT2.out;go_wp2_with (
                   (go_at_call 25;with_reducible refine Ny.go R3 (qe hF (k:=6) (by decide) (hBu.mono (by omega)) hlu) fun e2 E2=>?_))
                 refine⟨⟨_,n,rfl,Nat.le_succ_of_le hnu,hBu.gd hlf6.2.2,HE.out,E2.out⟩,?_⟩;rw[E2.out.m.pOn,HP.out];show F.length-(u.p+1)<F.length-u.p;omega
               ·have t0:((n:Int)==0)=false:=aN (by omega);have t1:IntKind.i64.wrap ((n:Int)+1)=(n:Int)+1:=aO _ (by omega);have HE:=ac (show xD F (n+1) (eD 7 u)=X by rw[←HU.out];unfold xD;rw[aC (by omega),aC hn0,xF hup hb hw]);have hnp:n+1≤(eD 7 u).p:=bF hnu;clear hk1;go_wp2_with fail;go_quiet (fail);have R3:=ac (R2.out.drew nq);go_wp2_with (
                  (go_at_call 25;with_reducible refine Ny.go R3 (qe hF (k:=7) (by decide) (hBu.mono (by omega)) hlu) fun e2 E2=>?_))
                refine⟨⟨_,n+1,rfl,hnp,hBu.gd hlf7.2.2,HE.out,E2.out⟩,?_⟩;rw[E2.out.m.pOn,HP.out];show F.length-(u.p+1)<F.length-u.p;omega
             case' false=>
               rw[hkd] at hw;clear hx2
           case' neg=>
             have hw:=sR hlu;obtain⟨A2,c2,z0,z3⟩:=R1.out.m.fc;have d2:decide ((u.p:Int)<(F.length:Int))=false:=aE (by omega)
           all_goals (
             have HE:=ac (show fV F (fG 5 s)=u by rw[←HXX.out,←HU.out];unfold xD;rw[Cz hup hb hw,zN hup hb hw];split<;>rfl);clear hw;go_wp2_with fail;go_quiet (fail);have R2:=ac (R1.out.drew nq);go_wp2_with (
               (go_at_call 26;with_reducible refine Ny.go (Ny.cast R2 HE.out) (nS hF 5 (fV F) (by decide) (hB.mono (by omega)) HGE.out (by omega)) fun e2 E2=>?_))
             first|go_end0|refine bn ?_
             exact⟨rfl,by rw[HX.out];exact E2.out⟩)
      ·have hfun:lD F s=true:=HB.out.symm;have hX:iL F L s=jI 16 (lm F L) s:=by unfold iL;rw[aC (by rw[hcp];decide),aB hfun]
       have HX:=ac hX;have hf2:=hfun;unfold lD at hf2;simp only[aR,bA,bT] at hf2;obtain⟨e120,e40,hd2,_⟩:=hf2;have hlt2:s.p+1<F.length:=oV (by rw[e40];decide);have hB0:Bd F 25 (fG 16 {s with deep:=s.deep+1}):=⟨hB.p,by rw[B4];have:=hB.l;show s.l.length+1≤46*s.p+25;omega,by show s.deep+1≤200;omega⟩;obtain⟨t0,ht0⟩:∃t0,t0=fG 16 {s with deep:=s.deep+1}:=⟨_,rfl⟩;have HT0:=ac ht0;rw[←ht0] at hB0;have hp0:t0.p<F.length∧s.p≤t0.p∧t0.p+1<F.length∧(eD 7 t0).p≤100000:=by rw[ht0];exact⟨hlt,au _,hlt2,by show s.p+1≤_;omega⟩
       obtain⟨hlt0,hsp0,_,hl5⟩:=hp0;have ew:eK F t0=eD 7 t0:=by unfold eK;rw[aB (Gc (by rw[ht0];exact e120))]
       have et:eG F [40] (eK F t0)=dY (eD 7 t0):=by rw[ew];exact lT (by rw[jF,ht0];show (sg F (s.p+1)==40)=true;rw[e40];rfl)
       have ET:=ac et;have hg1:=gK (F:=F) hB0.p;have hB1:=hB0.gd hg1;have hg2:=fJ (F:=F) (cs:=[40]) (by decide) hB1.p;have hB2:=hB1.gd hg2;have hg3:=fp (F:=F) (c:=41) (by decide) hB2.p;have hB3:=hB2.gd hg3;have hg4:=ej (F:=F) hB3.p;have hB4:=hB3.gd hg4;have hq4:q≤(dW F (eE F 41 (eG F [40] (eK F t0)))).p+1:=aA hq (bF (aA hsp0 (aA hg1.p (aA hg2.p (aA hg3.p hg4.p)))));have HGE:=ac (show Gd F.length 2 (fG 16 {s with deep:=s.deep+1}) (lm F L (fG 16 {s with deep:=s.deep+1})) from (wL hL (s:=fG 16 {s with deep:=s.deep+1}) e120).1);clear e120 e40 hX hfun ht0 ew et hd2
       cases hk:gy F (dW F (eE F 41 (eG F [40] (eK F t0))))
       case' false=>
         have HE:=ac (show lm F L (fG 16 {s with deep:=s.deep+1})=fe (dW F (eE F 41 (eG F [40] (eK F t0)))) by rw[←HT0.out];unfold lm;simp only[hk,bp,aH])
       case' true=>
         have HE:=ac (show lm F L (fG 16 {s with deep:=s.deep+1})=g9 F L (dW F (eE F 41 (eG F [40] (eK F t0)))) by rw[←HT0.out];unfold lm;simp only[hk,bP])
       all_goals (
         go_wp2_with (first
           | (go_at_call 26;with_reducible refine Ny.go (Ny.cast A6 HE.out) (Gs hF 16 (lm F L) (by decide) (hB.mono (by omega)) HGE.out (by omega)) fun a8 A8=>?_)
           | (go_at_call 69;with_reducible refine Ny.go A5 (nH hF (hB4.mono (by omega))) fun a6 A6=>?_)
           | (go_at_call 101;with_reducible refine Ny.go A5 (ue hF hL HL hq4 (hB4.mono (by omega)) hk) fun a6 A6=>?_)
           | (go_at_call 67;with_reducible refine Ny.go A4 (wQ hF _ hB4.p hk) fun a5 A5=>?_)
           | (go_at_call 47;with_reducible refine Ny.go A3 (gU hF hB3.p) fun a4 A4=>?_)
           | (go_at_call 103;with_reducible refine Ny.go A2' (jK hF (hB2.mono (by omega)) 41 (by decide)) fun a3 A3=>?_)
           | (go_at_call 25;with_reducible refine Ny.inc A1' (hl5) (qe hF (k:=7) (by decide) (hB0.mono (by omega)) hlt0) fun a2 ga2 da2 ka2 va2 A2=>?_
              have A2':=Ny.cast A2 ET.out)
           | (go_at_call 21;with_reducible refine Ny.go J0 (ze hF 16 (by decide) (hB.mono (by omega))) fun a1 A1=>?_
              have A1':=Ny.cast A1 HT0.out)
           | fail)
         first|go_end0|refine bn ?_
         exact⟨rfl,by rw[HX.out];exact A8.out⟩)
   ·have HX:=ac (show iL F L s=g9 F L s by unfold iL;rw[aB hcp]);go_enter Tryz.func87,Tryz.ntmps87
    go_wp2_with (first
      | (go_at_call 101;with_reducible refine Ny.go H2 (ue hF hL HL hq (hB.mono (by omega)) hcp) fun w3 H3=>?_)
      | (go_at_call 67;with_reducible refine Ny.go H1 (wQ hF true hp hcp) fun w2 H2=>?_)
      | (go_at_call 45;with_reducible refine Ny.go H0 (Cg hF true hp hcm) fun w1 H1=>?_)
      | fail)
    first|go_end0|refine bn ?_
    exact⟨rfl,by rw[HX.out];exact H3.out⟩
end
end
end Go.Proofs.YtmclohkaiemnaaaGreatDoor
