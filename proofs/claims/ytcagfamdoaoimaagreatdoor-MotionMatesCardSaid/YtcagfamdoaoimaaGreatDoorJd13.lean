/- quillwortref04.Assign: the place that it tells, in every world the same. -/
import Derived.Test.YtcagfamdoaoimaaGreatDoorRh13
import Derived.Test.YtcagfamdoaoimaaGreatDoorNi13
import Derived.Deep.DeepCutAuto
import Derived.Deep.CutBlock
set_option linter.unusedVariables false
set_option linter.unusedSimpArgs false
set_option maxRecDepth 100000
set_option maxHeartbeats 8000000
namespace Go.Proofs.YtcagfamdoaoimaaGreatDoor
section
open Go.RowKit
def zT (l:List UInt8) (k:Nat):Prop:=(k=0∧∀j,1≤j→j<l.length→nw l j=false)∨(1≤k∧k<l.length∧nw l k=true∧∀j,1≤j→j<k→nw l j=false)
theorem zT.yes {l:List UInt8} {k0 k:Nat} (h:zT l k0) (h1:1≤k) (h2:k<l.length) (h3:nw l k=true) (h4:∀j,1≤j→j<k→nw l j=false):k0=k:=by
  rcases h with ⟨rfl,h⟩|⟨a,b,c,d⟩
  ·rw[h k h1 h2] at h3;cases h3
  ·rcases bZ k k0 with h5|h5
   ·rw[d k h1 h5] at h3;cases h3
   ·rcases bZ k0 k with h6|h6
    ·rw[h4 k0 a h6] at c;cases c
    ·omega
theorem zT.no {l:List UInt8} {k0:Nat} (h:zT l k0) (h1:∀j,1≤j→j<l.length→nw l j=false):k0=0:=by
  rcases h with ⟨rfl,h⟩|⟨a,b,c,d⟩
  ·rfl
  ·rw[h1 k0 a b] at c;cases c
theorem Ki (l:List UInt8):∃k,zT l k:=by
  have key:∀n,n≤l.length→(∀j,1≤j→j<n→nw l j=false)∨∃k,1≤k∧k<n∧nw l k=true∧∀j,1≤j→j<k→nw l j=false:=by
    intro n
    induction n with
    | zero=>intro _;exact .inl fun j _ h=>by omega
    | succ n ih=>
      intro hn;rcases ih (by omega) with h|⟨k,a,b,c,d⟩
      ·cases hc:nw l n
       ·refine .inl fun j h1 h2=>?_
        rcases bZ j n with h3|h3
        ·exact h j h1 h3
        ·obtain rfl:j=n:=by omega
         exact hc
       ·by_cases h1:1≤n
        ·exact .inr ⟨n,h1,by omega,hc,h⟩
        ·exact .inl fun j h2 h3=>by omega
      ·exact .inr ⟨k,a,by omega,c,d⟩
  rcases key l.length (au _) with h|⟨k,a,b,c,d⟩
  ·exact⟨0,.inl ⟨rfl,h⟩⟩
  ·exact⟨k,.inr ⟨a,b,c,d⟩⟩
theorem zT.t {l:List UInt8} {k:Nat} (h:zT l k):decide ((0:Int)<(k:Int))=lI l:=by
  rcases h with ⟨rfl,h⟩|⟨a,b,c,d⟩
  ·rw[Mp h];rfl
  ·rw[Mq a b c];exact aG (by omega)
theorem C5 (l:List UInt8) (k0:Nat) (hM:zT l k0) (w:World) (hl:l.length≤100000):vZ 179 #[.string ⟨l.toArray⟩] w (.int .i64 (k0:Int)):=by
  have HM:=aa hM;clear hM;go_enter Tryz.func179,Tryz.ntmps179;go_wp2;go_loopw [3] (fun i wr=>∃k:Nat,1≤k∧i=.int .i64 k∧wr=w∧∀j,1≤j→j<k→j<l.length→nw l j=false) (fun i _=>l.length+1-(intOf i).toNat)
  case atStart=>exact⟨1,au _,rfl,rfl,fun j h1 h2=>by omega⟩
  case round=>
    obtain⟨k,hk,rfl,rfl,hI⟩:=hrel;have u2:(0:Int)≤(k:Int):=by omega
    by_cases hlt:k<l.length
    ·have u1:(k:Int)<(l.length:Int):=by omega
     obtain⟨d,hd⟩:∃d,l[k]? = some d:=⟨_,ax hlt⟩;obtain⟨g1,g2⟩:=ay.1 hd;have g3:(ByteArray.mk l.toArray)[k]'(show k<l.length from g1)=d:=g2;have he:(ByteArray.mk l.toArray).extract 0 k=⟨(l.take k).toArray⟩:=by rw[dX];rfl
     have hn:nw l k=(decide (d=61)&&jo (l.take k)):=by
       unfold nw;rw[hd];by_cases h:d=61
       ·subst h;simp
       ·rw[aL h];simp[h]
     by_cases h61:d=61
     ·have t1:((d.toNat:Int)==61)=true:=by rw[h61];rfl
      obtain⟨b,hb⟩:∃b,b=jo (l.take k):=⟨_,rfl⟩;have hb2:nw l k=b:=by rw[hn,aG h61,hb];rfl
      have c1:∀W,iG 158 #[.string ⟨(l.take k).toArray⟩] W (.bool b):=fun W=>by rw[hb];exact qJ _ W (by simp;omega)
      have HX:=aa (ac hI (ac he (ac hb2 c1)));clear hI he hb2 c1 hb hn g2 hd h61
      cases b with
      | true=>
        go_wp2_with (
          (go_at_call 158;first|rw[HX.out.2.1]|skip
           refine(HX.out.2.2.2 _).mono ?_;rintro e w' ⟨rfl,rfl⟩))
        go_ret;exact⟨by rw[HM.out.yes hk hlt HX.out.2.2.1 (fun j h1 h2=>HX.out.1 j h1 h2 (by omega))];rfl,rfl⟩
      | false=>
        go_wp2_with (
          (go_at_call 158;first|rw[HX.out.2.1]|skip
           refine(HX.out.2.2.2 _).mono ?_;rintro e w' ⟨rfl,rfl⟩))
        exact⟨⟨k+1,by omega,by go_num,trivial,fun j h1 h2 h3=>by
          rcases bZ j k with h4|h4
          ·exact HX.out.1 j h1 h4 h3
          ·obtain rfl:j=k:=by omega
           exact HX.out.2.2.1⟩,by simp[intOf]<;>omega⟩
     ·have t1:((d.toNat:Int)==61)=false:=aJ (fun h=>h61 (dc.1 (by show d.toNat=61;omega)));rw[aL h61,dF] at hn;have HX:=aa (ac hI hn);clear hI he hn g2 hd h61;go_wp2;exact⟨⟨k+1,by omega,by go_num,trivial,fun j h1 h2 h3=>by
        rcases bZ j k with h4|h4
        ·exact HX.out.1 j h1 h4 h3
        ·obtain rfl:j=k:=by omega
         exact HX.out.2⟩,by simp[intOf]<;>omega⟩
    ·have u1:¬(k:Int)<(l.length:Int):=by omega
     have HX:=aa hI;clear hI;go_wp2;go_ret;exact⟨by rw[HM.out.no (fun j h1 h2=>HX.out j h1 (by omega) h2)];rfl,rfl⟩
theorem C6 (l:List UInt8) (hl:l.length≤100000):∃k:Nat,decide ((0:Int)<(k:Int))=lI l∧∀w,vZ 179 #[.string ⟨l.toArray⟩] w (.int .i64 (k:Int)):=by
  obtain⟨k,h⟩:=Ki l;exact⟨k,h.t,fun w=>C5 l k h w hl⟩
theorem Md (c:UInt8) (h:[123,40,105,119,114,99].contains c=true):∃m,m≤5∧sI c=9+m∧(∀k,k≤5→(((([123,40,105,119,114,99]:List UInt8).getD k 0).toNat:Int)==(c.toNat:Int))=decide (m=k))∧c=([123,40,105,119,114,99]:List UInt8).getD m 0:=by
  have key:∀k,k≤5→k=0∨k=1∨k=2∨k=3∨k=4∨k=5:=fun k h=>by omega
  have h2:c=123∨c=40∨c=105∨c=119∨c=114∨c=99:=by simpa using h
  rcases h2 with rfl|rfl|rfl|rfl|rfl|rfl
  ·exact⟨0,by decide,rfl,fun k hk=>by rcases key k hk with rfl|rfl|rfl|rfl|rfl|rfl<;>rfl,rfl⟩
  ·exact⟨1,by decide,rfl,fun k hk=>by rcases key k hk with rfl|rfl|rfl|rfl|rfl|rfl<;>rfl,rfl⟩
  ·exact⟨2,by decide,rfl,fun k hk=>by rcases key k hk with rfl|rfl|rfl|rfl|rfl|rfl<;>rfl,rfl⟩
  ·exact⟨3,by decide,rfl,fun k hk=>by rcases key k hk with rfl|rfl|rfl|rfl|rfl|rfl<;>rfl,rfl⟩
  ·exact⟨4,by decide,rfl,fun k hk=>by rcases key k hk with rfl|rfl|rfl|rfl|rfl|rfl<;>rfl,rfl⟩
  ·exact⟨5,by decide,rfl,fun k hk=>by rcases key k hk with rfl|rfl|rfl|rfl|rfl|rfl<;>rfl,rfl⟩
section
variable {g:Nat} {fv:Value} {F:List Lf} {L:Ps→Ps} {q:Nat} {s:Ps} {W:World} (hF:FB F) (hL:GL F L) (HL:sA g fv F L q)
include hF hL HL
theorem uC (hq:q≤s.p+1) (hB:Bd F 40 s) (hc:gu F s=true) (h:Nk g fv F s W) :
    vY 176 g fv F W (.tuple #[]) (gT F L s):=by
  have hn:=hF.n;have hlt:=jP hc;have us:(0:Int)≤(s.p:Int):=by omega
  have H0:=aa (Ny.start h);obtain⟨⟨_,c1,c3,_,_⟩,_⟩:=h.cells;have hsl:=pT F;have hd:=wy hlt;obtain⟨c,hcc⟩:∃c,c=sg F s.p:=⟨_,rfl⟩;rw[←hcc] at hd;obtain⟨Z,hZ⟩:∃Z,Z=tA F:=⟨_,rfl⟩;rw[←hZ] at c1 hd hsl;obtain⟨g1,g2⟩:=ay.1 hd;have g3:(ByteArray.mk Z.toArray)[s.p]'(show s.p<Z.length from g1)=c:=g2;have t1:(s.p:Int)<(Z.length:Int):=by omega
  obtain⟨m,hm5,hmk,hme,hmc⟩:=Md c (by rw[hcc];exact((aT _ _).mp hc).2);obtain⟨K,hK⟩:∃K,K=9+m:=⟨_,rfl⟩;have hKn:gL K=true:=by
    have key:m=0∨m=1∨m=2∨m=3∨m=4∨m=5:=by omega
    rcases key with rfl|rfl|rfl|rfl|rfl|rfl<;>(rw[hK];rfl)
  have hK18:(decide (K≤18)&&gL K)=true:=by rw[hKn,aG (by omega)];rfl
  have hdp:s.deep<200:=cU ((aT _ _).mp hc).1;obtain⟨t0,ht0⟩:∃t0,t0=fC K {s with deep:=s.deep+1}:=⟨_,rfl⟩;have hBt:Bd F 41 t0:=by rw[ht0];exact⟨hB.p,by rw[Ct];have:=hB.l;show s.l.length+1≤46*s.p+41;omega,by show s.deep+1≤200;omega⟩
  have htp:t0.p=s.p:=by rw[ht0];rfl
  have ht5:(fC K {s with deep:=s.deep+1}).p≤100000:=by show s.p≤_;omega
  obtain⟨T0,hT0⟩:∃T0,T0=dM t0:=⟨_,rfl⟩;have hTB:Bd F 0 T0:=by rw[hT0];exact hBt.next (by omega) (by omega)
  have hqT:q≤T0.p:=by rw[hT0];show q≤t0.p+1;omega
  obtain⟨f,hf⟩:∃f:Ps→Ps,f=fun t=>gw F (mS F L c (dM t)):=⟨_,rfl⟩
  have hx:gT F L s=kJ K f s:=by rw[hf,hK,←hmk,hcc];rfl
  obtain⟨BG,hBG,hG⟩:∃B,B≤1000∧Gd F.length B t0 (f t0):=by
    have gn:=(Gd.next (N:=F.length) (s:=t0) (by omega)).1;have gi:=mU hL c gn.N;exact⟨0+14+0,by omega,by rw[hf];exact(gn.trans gi).trans (rI gi.N)⟩
  have HX:=aa hx;have HF0:=aa hf;have HG:=aa hG;have HGE:=aa (show Gd F.length BG (fC K {s with deep:=s.deep+1}) (f (fC K {s with deep:=s.deep+1})) by rw[←ht0];exact hG);have HM:=aa (ac hmk (ac hme hmc));have HT0:=aa hT0;have Ht0:=aa ht0;have HE0:=aa (show T0=dM (fC K {s with deep:=s.deep+1}) by rw[hT0,ht0]);have HK:=aa hK;clear hd hZ g2 h hmk hme hcc hmc hx hG hT0 ht0 htp hK hf;go_enter Tryz.func176,Tryz.ntmps176;go_wp2_with fail;go_quiet (fail);have UQ:=aa (H0.out.drew nq);clear c1 c3 g3 g1 t1;go_upto_block 0 with fail
  go_cut [3] (fun v wx=>v=.int .i64 (K:Int)∧W.drewN nq=wx)
  case first=>
    go_wp2_with fail;go_loopw [3,4] (fun v i wr=>∃(k:Nat) (z:Nat),k≤6∧i=.int .i64 k∧v=.int .i64 (z:Int)∧z=(if m<k then 9+m else 9)∧W.drewN nq=wr) (fun v i _=>6-(intOf i).toNat)
    case atStart=>exact⟨0,9,by omega,rfl,rfl,rfl,rfl⟩
    case round=>
      obtain⟨k,z,hk,rfl,rfl,hz,hw⟩:=hrel;subst hw;have HZ:=aa hz;clear hz;have key:k=0∨k=1∨k=2∨k=3∨k=4∨k=5∨k=6:=by omega
      rcases key with rfl|rfl|rfl|rfl|rfl|rfl|rfl
      case inr.inr.inr.inr.inr.inr=>
        go_wp2_with fail;go_meet;exact⟨by rw[HZ.out,aD (by omega),HK.out],rfl⟩
      case inl=>
        have e:((((ByteArray.mk #[123,40,105,119,114,99])[0]'(by decide)).toNat:Int)==(c.toNat:Int))=decide (m=0):=HM.out.2.1 0 (by omega);by_cases hm:m=0
        ·rw[aG hm] at e;clear hm5;go_wp2_with fail;exact⟨⟨1,9,by omega,rfl,rfl,by rw[aD (by omega),hm],trivial⟩,by simp[intOf]⟩
        ·rw[aL hm] at e;go_wp2_with fail;exact⟨⟨1,z,by omega,rfl,rfl,by rw[HZ.out];by_cases h9:m<0;(rw[aD h9,aD (by omega)]);(rw[aB h9,aB (by omega)]),trivial⟩,by simp[intOf]⟩
      case inr.inl=>
        have e:((((ByteArray.mk #[123,40,105,119,114,99])[1]'(by decide)).toNat:Int)==(c.toNat:Int))=decide (m=1):=HM.out.2.1 1 (by omega);by_cases hm:m=1
        ·rw[aG hm] at e;clear hm5;go_wp2_with fail;exact⟨⟨2,10,by omega,rfl,rfl,by rw[aD (by omega),hm],trivial⟩,by simp[intOf]⟩
        ·rw[aL hm] at e;go_wp2_with fail;exact⟨⟨2,z,by omega,rfl,rfl,by rw[HZ.out];by_cases h9:m<1;(rw[aD h9,aD (by omega)]);(rw[aB h9,aB (by omega)]),trivial⟩,by simp[intOf]⟩
      case inr.inr.inl=>
        have e:((((ByteArray.mk #[123,40,105,119,114,99])[2]'(by decide)).toNat:Int)==(c.toNat:Int))=decide (m=2):=HM.out.2.1 2 (by omega);by_cases hm:m=2
        ·rw[aG hm] at e;clear hm5;go_wp2_with fail;exact⟨⟨3,11,by omega,rfl,rfl,by rw[aD (by omega),hm],trivial⟩,by simp[intOf]⟩
        ·rw[aL hm] at e;go_wp2_with fail;exact⟨⟨3,z,by omega,rfl,rfl,by rw[HZ.out];by_cases h9:m<2;(rw[aD h9,aD (by omega)]);(rw[aB h9,aB (by omega)]),trivial⟩,by simp[intOf]⟩
      case inr.inr.inr.inl=>
        have e:((((ByteArray.mk #[123,40,105,119,114,99])[3]'(by decide)).toNat:Int)==(c.toNat:Int))=decide (m=3):=HM.out.2.1 3 (by omega);by_cases hm:m=3
        ·rw[aG hm] at e;clear hm5;go_wp2_with fail;exact⟨⟨4,12,by omega,rfl,rfl,by rw[aD (by omega),hm],trivial⟩,by simp[intOf]⟩
        ·rw[aL hm] at e;go_wp2_with fail;exact⟨⟨4,z,by omega,rfl,rfl,by rw[HZ.out];by_cases h9:m<3;(rw[aD h9,aD (by omega)]);(rw[aB h9,aB (by omega)]),trivial⟩,by simp[intOf]⟩
      case inr.inr.inr.inr.inl=>
        have e:((((ByteArray.mk #[123,40,105,119,114,99])[4]'(by decide)).toNat:Int)==(c.toNat:Int))=decide (m=4):=HM.out.2.1 4 (by omega);by_cases hm:m=4
        ·rw[aG hm] at e;clear hm5;go_wp2_with fail;exact⟨⟨5,13,by omega,rfl,rfl,by rw[aD (by omega),hm],trivial⟩,by simp[intOf]⟩
        ·rw[aL hm] at e;go_wp2_with fail;exact⟨⟨5,z,by omega,rfl,rfl,by rw[HZ.out];by_cases h9:m<4;(rw[aD h9,aD (by omega)]);(rw[aB h9,aB (by omega)]),trivial⟩,by simp[intOf]⟩
      case inr.inr.inr.inr.inr.inl=>
        have e:((((ByteArray.mk #[123,40,105,119,114,99])[5]'(by decide)).toNat:Int)==(c.toNat:Int))=decide (m=5):=HM.out.2.1 5 (by omega);by_cases hm:m=5
        ·rw[aG hm] at e;clear hm5;go_wp2_with fail;exact⟨⟨6,14,by omega,rfl,rfl,by rw[aD (by omega),hm],trivial⟩,by simp[intOf]⟩
        ·rw[aL hm] at e;go_wp2_with fail;exact⟨⟨6,z,by omega,rfl,rfl,by rw[HZ.out];by_cases h9:m<5;(rw[aD h9,aD (by omega)]);(rw[aB h9,aB (by omega)]),trivial⟩,by simp[intOf]⟩
  case rest=>
    obtain⟨rfl,rfl⟩:=hcut;go_upto_block 2 with (
      (go_at_call 36;with_reducible refine Ny.inc UQ ht5 (zN hF K hK18 (hB.mono (by omega))) fun w1 gw1 dw1 kw1 vw1 A0=>?_
       have A1:=Ny.cast A0 HE0.out))
    go_cut [] (fun wx=>Ny g fv F W (mS F L c T0) wx)
    case first=>
      have key:m=0∨m=1∨m=2∨m=3∨m=4∨m=5:=by omega
      rcases key with rfl|rfl|rfl|rfl|rfl|rfl
      ·obtain rfl:K=9:=HK.out;obtain rfl:c=123:=HM.out.2.2;clear hm5;have hgb:=fS hL hTB.p;have hBb:=hTB.gd hgb;have hqb:q≤(eM F L T0).p:=aA hqT hgb.p
       go_wp2_with (first
         | (go_at_call 177;with_reducible refine Ny.go B1 (jB hF (hBb.mono (by omega)) 125 (by decide)) fun b2 B2=>?_)
         | (go_at_call 207;with_reducible refine Ny.go A1 (nj hF HL hqT (hTB.mono (by omega))) fun b1 B1=>?_)
         | fail)
       go_meet
       exact(Ny.cast B2 (show mS F L 123 T0=eF F 125 (eM F L T0) from rfl)).out
      ·obtain rfl:K=10:=HK.out;obtain rfl:c=40:=HM.out.2.2;clear hm5;have hgb:=fS hL hTB.p;have hBb:=hTB.gd hgb;have hqb:q≤(eM F L T0).p:=aA hqT hgb.p
       go_wp2_with (first
         | (go_at_call 177;with_reducible refine Ny.go B1 (jB hF (hBb.mono (by omega)) 41 (by decide)) fun b2 B2=>?_)
         | (go_at_call 207;with_reducible refine Ny.go A1 (nj hF HL hqT (hTB.mono (by omega))) fun b1 B1=>?_)
         | fail)
       go_meet
       exact(Ny.cast B2 (show mS F L 40 T0=eF F 41 (eM F L T0) from rfl)).out
      ·obtain rfl:K=11:=HK.out;obtain rfl:c=105:=HM.out.2.2;clear hm5;have hgb:=fS hL hTB.p;have hBb:=hTB.gd hgb;have hqb:q≤(eM F L T0).p:=aA hqT hgb.p;have hg2:=fO (F:=F) (c:=116) (by decide) hBb.p;have hB2:=hBb.gd hg2;have hq2:q≤(eF F 116 (eM F L T0)).p:=aA hqb hg2.p;have hg3:=fS hL hB2.p;have hB3:=hB2.gd hg3;have hq3:q≤(eM F L (eF F 116 (eM F L T0))).p:=aA hq2 hg3.p
       go_wp2_with (first
         | (go_at_call 207;with_reducible refine Ny.go B2 (nj hF HL hq2 (hB2.mono (by omega))) fun b3 B3=>?_)
         | (go_at_call 177;with_reducible refine Ny.go B1 (jB hF (hBb.mono (by omega)) 116 (by decide)) fun b2 B2=>?_)
         | (go_at_call 207;with_reducible refine Ny.go A1 (nj hF HL hqT (hTB.mono (by omega))) fun b1 B1=>?_)
         | fail)
       go_loopw [] (fun wr=>∃u:Ps,q≤u.p∧Bd F 9 u∧(eO F.length (fun s=>if dQ F [101] s=true then (eM F L (eF F 116 (eM F L (dM s))),true) else (s,false))) u=(eO F.length (fun s=>if dQ F [101] s=true then (eM F L (eF F 116 (eM F L (dM s))),true) else (s,false))) (eM F L (eF F 116 (eM F L T0)))∧Ny g fv F W u wr) (fun wr=>F.length-pOn g wr)
       case atStart=>exact⟨_,hq3,hB3,rfl,B3.out⟩
       case round=>
         obtain⟨u,hqu,hBu,hlu,hz⟩:=hrel;have U0:=aa hz;have HU:=aa hlu;have HP:=aa hz.m.pOn;have hup:=hBu.p;clear hz hlu
         cases hc:dQ F [101] u
         ·have HE:=aa (HU.out.symm.trans (LC.gon (ly hL) hBu.p (t:=u) (by show (if _ then _ else _)=_;rw[aB (by rw[hc];decide)])))
          cases hd:dQ F [108] u
          ·go_wp2_with (first
             | (go_at_call 177;with_reducible refine Ny.go D2 (jB hF (hBu.mono (by omega)) 102 (by decide)) fun d3 D3=>?_)
             | (go_at_call 37;with_reducible refine Ny.go D1 (fe false hF hup [108] (by decide) hd) fun d2 D2=>?_)
             | (go_at_call 37;with_reducible refine Ny.go U0 (fe false hF hup [101] (by decide) hc) fun d1 D1=>?_)
             | fail)
           go_meet
           exact(Ny.cast D3 (show mS F L 105 T0=eF F 102 u by show mE F L T0=_;unfold mE;rw[HE.out];simp only[hd,bp,aI])).out
          ·have hltl:=eh hd (by decide);have hnl:=hBu.next hltl (by omega);have hql:q≤(dM u).p:=aA hqu (cg _);have hgl:=fS hL hnl.p;have hBl:=hnl.gd hgl
           go_wp2_with (first
             | (go_at_call 177;with_reducible refine Ny.go D3 (jB hF (hBl.mono (by omega)) 102 (by decide)) fun d4 D4=>?_)
             | (go_at_call 207;with_reducible refine Ny.go D2 (nj hF HL hql (hnl.mono (by omega))) fun d3 D3=>?_)
             | (go_at_call 37;with_reducible refine Ny.inc D1 (by omega) (fe true hF hup [108] (by decide) hd) fun d2 gd2 dd2 kd2 vd2 D2=>?_)
             | (go_at_call 37;with_reducible refine Ny.go U0 (fe false hF hup [101] (by decide) hc) fun d1 D1=>?_)
             | fail)
           go_meet
           exact(Ny.cast D4 (show mS F L 105 T0=eF F 102 (eM F L (dM u)) by show mE F L T0=_;unfold mE;rw[HE.out];simp only[hd,bQ])).out
         ·have hlt4:=eh hc (by decide);have hn4:=hBu.next hlt4 (by omega);have hq4:q≤(dM u).p:=aA hqu (cg _);have hg4:=fS hL hn4.p;have hB4:=hn4.gd hg4;have hq5:=aA hq4 hg4.p;have hg5:=fO (F:=F) (c:=116) (by decide) hB4.p;have hB5:=hB4.gd hg5;have hq6:=aA hq5 hg5.p;have hy:=(ly hL u hBu.p).yy (t:=eM F L (eF F 116 (eM F L (dM u)))) (by rw[aD hc]);have HE:=aa ((LC.goy (ly hL) hBu.p (t:=eM F L (eF F 116 (eM F L (dM u)))) (by show (if _ then _ else _)=_;rw[aD hc])).symm.trans HU.out)
          go_wp2_with (first
            | (go_at_call 207;with_reducible refine Ny.go D3 (nj hF HL hq6 (hB5.mono (by omega))) fun d4 D4=>?_)
            | (go_at_call 177;with_reducible refine Ny.go D2 (jB hF (hB4.mono (by omega)) 116 (by decide)) fun d3 D3=>?_)
            | (go_at_call 207;with_reducible refine Ny.go D1 (nj hF HL hq4 (hn4.mono (by omega))) fun d2 D2=>?_)
            | (go_at_call 37;with_reducible refine Ny.inc U0 (by omega) (fe true hF hup [101] (by decide) hc) fun d1 gd1 dd1 kd1 vd1 D1=>?_)
            | fail)
          refine⟨⟨_,aA hqu (bq hy.2),hBu.gd hy.1,HE.out,D4.out⟩,?_⟩;rw[D4.out.m.pOn,HP.out]
          have:=hy.2
          have:=hy.1.N
          omega
      ·obtain rfl:K=12:=HK.out;obtain rfl:c=119:=HM.out.2.2;clear hm5;have hgb:=fS hL hTB.p;have hBb:=hTB.gd hgb;have hqb:q≤(eM F L T0).p:=aA hqT hgb.p
       go_wp2_with (first
         | (go_at_call 208;with_reducible refine Ny.go B1 (rM hF hL HL hqb (hBb.mono (by omega))) fun b2 B2=>?_)
         | (go_at_call 207;with_reducible refine Ny.go A1 (nj hF HL hqT (hTB.mono (by omega))) fun b1 B1=>?_)
         | fail)
       go_meet
       exact(Ny.cast B2 (show mS F L 119 T0=xE F L (eM F L T0) from rfl)).out
      ·obtain rfl:K=13:=HK.out;obtain rfl:c=114:=HM.out.2.2;clear hm5;go_wp2_with (
         (go_at_call 209;with_reducible refine Ny.go A1 (Nn hF hL HL hqT hTB) fun b1 B1=>?_))
       go_meet
       exact(Ny.cast B1 (show mS F L 114 T0=gF F L T0 from rfl)).out
      ·obtain rfl:K=14:=HK.out;obtain rfl:c=99:=HM.out.2.2;clear hm5;go_wp2_with (
         (go_at_call 210;with_reducible refine Ny.go A1 (J8 hF hL HL hqT hTB) fun b1 B1=>?_))
       go_meet
       exact(Ny.cast B1 (show mS F L 99 T0=jw F L T0 from rfl)).out
    case rest=>
      have I0:=aa hcut;clear hcut;have hgi:=mU hL c hTB.p;have hBI:=hTB.gd hgi;obtain⟨I,hI⟩:∃I,I=mS F L c T0:=⟨_,rfl⟩;rw[←hI] at I0 hBI;have HI:=aa hI;clear hI hgi;go_wp2_with fail;go_loopw [] (fun wr=>∃u:Ps,Bd F 14 u∧(eO F.length (fun s=>if eK F s=true then (fI F s,true) else (s,false))) u=(eO F.length (fun s=>if eK F s=true then (fI F s,true) else (s,false))) I∧Ny g fv F W u wr) (fun wr=>F.length-pOn g wr)
      case atStart=>exact⟨_,hBI,rfl,I0.out⟩
      case round=>
        obtain⟨u,hBu,hlu,hz⟩:=hrel;have U0:=aa hz;have HU:=aa hlu;have HP:=aa hz.m.pOn;have hup:=hBu.p;clear hz hlu
        cases hb:eK F u
        ·have HE:=aa (HU.out.symm.trans (LC.gon jU hBu.p (t:=u) (by show (if _ then _ else _)=_;rw[aB (by rw[hb];decide)])));have HF:=aa (show f (fC K {s with deep:=s.deep+1})=u by rw[←Ht0.out];rw[HF0.out];show gw F (mS F L c (dM t0))=u;rw[←HT0.out];show gw F (mS F L c T0)=u;rw[←HI.out];exact HE.out)
         go_wp2_with (first
           | (go_at_call 41;with_reducible refine Ny.go (Ny.cast E1 HF.out) (GM hF K f hKn (hB.mono (by omega)) HGE.out (by omega)) fun e2 E2=>?_)
           | (go_at_call 110;with_reducible refine Ny.go U0 (nE hF false hup hb) fun e1 E1=>?_)
           | fail)
         first|go_end0|refine bn ?_
         exact⟨rfl,by rw[HX.out];exact E2.out⟩
        ·have hy:=(jU (F:=F) u hBu.p).yy (t:=fI F u) (by rw[aD hb]);have HE:=aa ((LC.goy jU hBu.p (t:=fI F u) (by show (if _ then _ else _)=_;rw[aD hb])).symm.trans HU.out)
         go_wp2_with (first
           | (go_at_call 178;with_reducible refine Ny.go E1 (tE hF (hBu.mono (by omega)) hb) fun e2 E2=>?_)
           | (go_at_call 110;with_reducible refine Ny.go U0 (nE hF true hup hb) fun e1 E1=>?_)
           | fail)
         refine⟨⟨_,hBu.gd hy.1,HE.out,E2.out⟩,?_⟩;rw[E2.out.m.pOn,HP.out]
         have:=hy.2
         have:=hy.1.N
         omega
end
theorem K7 {F:List Lf} {i:Nat} (h:F.length≤i):sg F i=0:=by unfold sg;rw[bY h]
theorem xS {F:List Lf} {u:Ps} (hs:u.p≤F.length) (hb:eK F u=true):fP F u=fP F (fI F u):=by
  unfold fP;rw[LC.goy (iP (F:=F)) hs (t:=fI F u) (by rw[aD hb])]
theorem CV {F:List Lf} {u:Ps} (hs:u.p≤F.length) (hb:eK F u=false) (hw:iM F u.p=true) (ha:lI (tx F u.p)=true):fP F u=fP F (ez 6 u):=by
  unfold fP;rw[LC.goy (iP (F:=F)) hs (t:=ez 6 u) (by rw[aB (by rw[hb];decide),aD (by rw[hw,ha];rfl)])]
theorem Ak {F:List Lf} {u:Ps} (hs:u.p≤F.length) (hb:eK F u=false) (hw:iM F u.p=true) (ha:lI (tx F u.p)=false):fP F u=iA F (ez 7 u):=by
  unfold fP;rw[LC.gon (iP (F:=F)) hs (t:=u) (by rw[aB (by rw[hb];decide),aB (by rw[hw,ha];decide)])];simp only[hw,bQ]
theorem CU {F:List Lf} {u:Ps} (hs:u.p≤F.length) (hb:eK F u=false) (hw:iM F u.p=false):fP F u=u:=by
  unfold fP;rw[LC.gon (iP (F:=F)) hs (t:=u) (by rw[aB (by rw[hb];decide),aB (by rw[hw,dF];decide)])];simp only[hw,bp,aI]
theorem ww {F:List Lf} {u:Ps} (hs:u.p≤F.length) (hb:eK F u=true):iA F u=iA F (fI F u):=LC.goy (mI (F:=F)) hs (by rw[aD hb])
theorem xT {F:List Lf} {u:Ps} (hs:u.p≤F.length) (hb:eK F u=false) (hw:iM F u.p=true):iA F u=iA F (ez 7 u):=LC.goy (mI (F:=F)) hs (by rw[aB (by rw[hb];decide),aD hw])
theorem Am {F:List Lf} {u:Ps} (hs:u.p≤F.length) (hb:eK F u=false) (hw:iM F u.p=false):iA F u=u:=LC.gon (mI (F:=F)) hs (by rw[aB (by rw[hb];decide),aB (by rw[hw];decide)])
def xR (F:List Lf) (n:Nat) (u:Ps):Ps:=if n=0 then fP F u else iA F u
theorem JK {F:List Lf} {s:Ps} (h:ng F s=false):gu F s=false∧mW F s=false:=by
  unfold ng at h;rw[Bool.or_eq_false_iff,Bool.or_eq_false_iff] at h;refine⟨h.2.2,?_⟩;unfold mW;rw[h.1,dF]
theorem Lj (l:List UInt8) (hl:l.length≤100000) (W:World):∃k:Int,decide (0<k)=lI l∧∀n,Calls Tryz.prog 179 #[.string ⟨l.toArray⟩] (W.drewN n) fun e w'=>e=.returned (.int .i64 k)∧∃m,w'=W.drewN m:=by
  obtain⟨k,h1,h2⟩:=C6 l hl;exact⟨k,h1,fun n=>(h2 (W.drewN n)).mono fun e w' ⟨a,b⟩=>⟨a,n,b⟩⟩
theorem J5 {F:List Lf} {s:Ps} (h:ng F s=true):s.p<F.length:=mO (by unfold fq;rw[h,Bool.or_true])
section
variable {g:Nat} {fv:Value} {F:List Lf} {L:Ps→Ps} {q:Nat} {s:Ps} {W:World} (hF:FB F) (hL:GL F L) (HL:sA g fv F L q)
include hF hL HL
theorem vQ (hq:q≤s.p+1) (hB:Bd F 24 s) (h:Nk g fv F s W) :
    vY 143 g fv F W (.tuple #[]) (iS F L s):=by
  have hn:=hF.n;have hp:=hB.p;have H0:=aa (Ny.start h);clear h
  cases hcm:ng F s
  ·obtain⟨hcp,hfn⟩:=JK hcm;have HX:=aa (show iS F L s=eS s by unfold iS;rw[aB (by rw[hcp];decide),aB (by rw[hfn];decide),aB (by rw[hcm];decide)]);go_enter Tryz.func143,Tryz.ntmps143
   go_wp2_with (first
     | (go_at_call 113;with_reducible refine Ny.go H1 (nM hF (hB.mono (by omega))) fun w2 H2=>?_)
     | (go_at_call 65;with_reducible refine Ny.go H0 (CE hF false hp hcm) fun w1 H1=>?_)
     | fail)
   first|go_end0|refine bn ?_
   exact⟨rfl,by rw[HX.out];exact H2.out⟩
  ·cases hcp:gu F s
   ·have hlt:=J5 hcm;obtain⟨x,hx⟩:∃x,F[s.p]? = some x:=⟨_,ax hlt⟩;have hxl:=hF.t x (aO hx);have hfb:mW F s=(dQ F [120] s&&(sg F (s.p+1)==40&&(decide (s.deep<200)&&i4 x.tx))):=by unfold mW;rw[ju,D9 hx]
    obtain⟨b,hbe⟩:∃b,b=mW F s:=⟨_,rfl⟩;have HB:=aa hbe;clear hbe;go_enter Tryz.func143,Tryz.ntmps143
    go_upto_region 4 with (first
      | (go_at_call 111;with_reducible refine Ny.go H1 (xi hF false hp hcp) fun w2 H2=>?_)
      | (go_at_call 65;with_reducible refine Ny.go H0 (CE hF true hp hcm) fun w1 H1=>?_)
      | fail)
    go_cut [62] (fun v wx=>v=.bool b∧Ny g fv F W s wx)
    case first=>
      have q1:=qw hF hp [120] (by decide) H2.out.m;have q2:=wS x.tx _ rfl (by omega) w2;obtain⟨g1,o1,c,y0,y3,y1,y2⟩:=H2.out.m.wc hx;obtain⟨⟨_,c1,_,_,c5⟩,_⟩:=H2.out.m.cells;have hT:s.p+1<F.length→(tA F)[s.p+1]? = some (sg F (s.p+1)):=fun h=>wy h
      have hsl:=pT F;obtain⟨Z,hZ⟩:∃Z,Z=tA F:=⟨_,rfl⟩;rw[←hZ] at c1 hsl hT;obtain⟨i,hi⟩:∃i,i=s.p+1:=⟨_,rfl⟩;have v1:IntKind.i64.wrap ((s.p:Int)+1)=(i:Int):=by rw[aS _ (by omega)];omega
      rw[←hi] at hT hfb;obtain⟨dz,hdz⟩:∃z:Int,z=(s.deep:Int):=⟨_,rfl⟩;rw[←hdz] at c5;have u0:(0:Int)≤(i:Int):=by omega
      have us:(0:Int)≤(s.p:Int):=by omega
      have u1:(s.p:Int)<(F.length:Int):=by omega
      obtain⟨nb,hnb⟩:∃nb,nb=i4 x.tx:=⟨_,rfl⟩;rw[←hnb] at q2 hfb;have key:dQ F [120] s=false∨(dQ F [120] s=true∧¬i<F.length)∨(dQ F [120] s=true∧i<F.length∧(sg F i==40)=false)∨(dQ F [120] s=true∧i<F.length∧(sg F i==40)=true∧¬s.deep<200)∨(dQ F [120] s=true∧i<F.length∧(sg F i==40)=true∧s.deep<200):=by
        by_cases h1:i<F.length<;>by_cases h2:s.deep<200<;>cases dQ F [120] s<;>cases (sg F i==40)<;>simp[h1,h2]
      have HFB:=aa hfb;clear hfb hnb hZ hx;rcases key with h1|⟨h1,h2⟩|⟨h1,h2,h3⟩|⟨h1,h2,h3,h4⟩|⟨h1,h2,h3,h4⟩
      case' inl=>
        have HV:=aa (show b=false by rw[HB.out,HFB.out,h1];rfl);clear hT
      case' inr.inl=>
        have HV:=aa (show b=false by rw[HB.out,HFB.out,K7 (by omega),h1];rfl);have t2:decide ((i:Int)<(Z.length:Int))=false:=aL (by omega);have t3:decide (i<Z.length)=false:=aL (by omega);clear hT
      case' inr.inr.inl=>
        have HV:=aa (show b=false by rw[HB.out,HFB.out,h1,h3];rfl);obtain⟨d,hdd⟩:∃d,d=sg F i:=⟨_,rfl⟩;have k1:=hT h2;rw[←hdd] at k1 h3;obtain⟨g4,g5⟩:=ay.1 k1;have g6:(ByteArray.mk Z.toArray)[i]'(show i<Z.length from g4)=d:=g5;have k2:((d.toNat:Int)==40)=(d==40):=i7 d 40;rw[h3] at k2;have t2:decide ((i:Int)<(Z.length:Int))=true:=aG (by omega);have t3:decide (i<Z.length)=true:=aG g4;clear hdd k1 g5 h3 hT
      case' inr.inr.inr.inl=>
        have HV:=aa (show b=false by rw[HB.out,HFB.out,h1,h3,aL h4];rfl);have t6:decide (dz<200)=false:=aL (by omega);obtain⟨d,hdd⟩:∃d,d=sg F i:=⟨_,rfl⟩;have k1:=hT h2;rw[←hdd] at k1 h3;obtain⟨g4,g5⟩:=ay.1 k1;have g6:(ByteArray.mk Z.toArray)[i]'(show i<Z.length from g4)=d:=g5;have k2:((d.toNat:Int)==40)=(d==40):=i7 d 40;rw[h3] at k2;have t2:decide ((i:Int)<(Z.length:Int))=true:=aG (by omega);have t3:decide (i<Z.length)=true:=aG g4;clear hdd k1 g5 h3 hT
      case' inr.inr.inr.inr=>
        have HV:=aa (show b=nb by rw[HB.out,HFB.out,h1,h3,aG h4];rfl);have t6:decide (dz<200)=true:=aG (by omega);obtain⟨d,hdd⟩:∃d,d=sg F i:=⟨_,rfl⟩;have k1:=hT h2;rw[←hdd] at k1 h3;obtain⟨g4,g5⟩:=ay.1 k1;have g6:(ByteArray.mk Z.toArray)[i]'(show i<Z.length from g4)=d:=g5;have k2:((d.toNat:Int)==40)=(d==40):=i7 d 40;rw[h3] at k2;have t2:decide ((i:Int)<(Z.length:Int))=true:=aG (by omega);have t3:decide (i<Z.length)=true:=aG g4;clear hdd k1 g5 h3 hT
      all_goals (
        rw[h1] at q1;have HQ:=aa (ac q1 q2);clear q1 q2 h1 hdz hi;go_wp2_with fail
        go_quiet (first
          | (go_at_call 37;with_reducible exact HQ.out.1 _)
          | (go_at_call 158;with_reducible exact HQ.out.2 _)
          | fail)
        go_wp2_with fail;go_meet;exact⟨by rw[HV.out],H2.out.drew nq⟩)
    case rest=>
      obtain⟨rfl,hz⟩:=hcut;have J0:=aa hz;clear hz hfb hx
      cases b
      ·have hfun:mW F s=false:=HB.out.symm;have HX:=aa (show iS F L s=dO 5 (fP F) s by unfold iS;rw[aB (by rw[hcp];decide),aB (by rw[hfun];decide),aD hcm]);have hi:=hB.inn 5;have HGE:=aa (wX (F:=F) hi.p);obtain⟨X,hX⟩:∃X,X=fP F (fC 5 s):=⟨_,rfl⟩;have HXX:=aa hX;clear hX hfun;go_wp2_with (
         (go_at_call 36;with_reducible refine Ny.go J0 (lh hF 5 (by decide) (hB.mono (by omega))) fun a1 A1=>?_))
       go_loopw [4] (fun v wr=>∃(u:Ps) (n:Nat),v=.int .i64 (n:Int)∧n≤u.p∧Bd F 25 u∧xR F n u=X∧Ny g fv F W u wr) (fun v wr=>F.length-pOn g wr)
       case atStart=>exact⟨_,0,rfl,bv _,hi,by rw[HXX.out];rfl,A1.out⟩
       case round=>
         obtain⟨u,n,rfl,hnu,hBu,hU,hz⟩:=hrel;have U0:=aa hz;have HU:=aa hU;have HP:=aa hz.m.pOn;have hup:=hBu.p;have uu:(0:Int)≤(u.p:Int):=by omega
         clear hU hz
         cases hb:eK F u
         case true=>
           have hy:=(jU (F:=F) u hBu.p).yy (t:=fI F u) (by rw[aD hb]);have HE:=aa (show xR F n (fI F u)=X by rw[←HU.out];unfold xR;rw[xS hup hb,ww hup hb])
           go_wp2_with (first
             | (go_at_call 178;with_reducible refine Ny.go E1 (tE hF (hBu.mono (by omega)) hb) fun e2 E2=>?_)
             | (go_at_call 110;with_reducible refine Ny.go U0 (nE hF true hup hb) fun e1 E1=>?_)
             | fail)
           refine⟨⟨_,n,rfl,aA hnu (bq hy.2),hBu.gd hy.1,HE.out,E2.out⟩,?_⟩;rw[E2.out.m.pOn,HP.out]
           have:=hy.2
           have:=hy.1.N
           omega
         case false=>
           go_upto_region 18 with (
             (go_at_call 110;with_reducible refine Ny.go U0 (nE hF false hup hb) fun r1 R1=>?_))
           by_cases hlu:u.p<F.length
           case' pos=>
             obtain⟨x2,hx2⟩:∃x,F[u.p]? = some x:=⟨_,ax hlu⟩;have hw:=rE hx2;have htx:=D9 hx2;have hxl2:=hF.t x2 (aO hx2);obtain⟨g2,o2,c2,z0,z3,z1,z2⟩:=R1.out.m.wc hx2;have ul:(u.p:Int)<(F.length:Int):=by omega
             have d2:decide ((u.p:Int)<(F.length:Int))=true:=aG ul
             cases hkd:(x2.kd==6)
             case' true=>
               rw[hkd] at hw;have hlf6:=fW (F:=F) (k:=6) hlu;have hlf7:=fW (F:=F) (k:=7) hlu;go_wp2_with fail;go_quiet (fail);have R2:=aa (R1.out.drew nq);clear z0 z1 z2 z3 d2;generalize r1.drewN nq=r2 at R2 ⊢;obtain⟨g2,o2,c2,z0,z3,z1,z2⟩:=R2.out.m.wc hx2;obtain⟨k,hk1,hk2⟩:=Lj x2.tx (by omega) r2;have HK:=aa hk2;clear hk2 hx2;by_cases hn0:n=0
               ·have t0:((n:Int)==0)=true:=by rw[hn0];rfl
                have HN0:=aa hn0;have HT2:=aa (show IntKind.i64.wrap ((n:Int)+1)=(n:Int)+1 from aS _ (by omega));have hnp:n+1≤(ez 7 u).p:=bH hnu;clear hn0
                cases ha:lI x2.tx
                ·have HT1:=aa (show decide (0<k)=false by rw[hk1,ha]);have HE:=aa (show xR F (n+1) (ez 7 u)=X by rw[←HU.out,HN0.out];show iA F (ez 7 u)=fP F u;rw[Ak hup hb hw (by rw[htx,ha])]);clear hk1 ha;go_wp2_with fail;have t1:_:=HT1.out;go_quiet (
                   (go_at_call 179;with_reducible exact HK.out _))
                 have R3:=aa (R2.out.drew nq);have t2:_:=HT2.out;go_wp2_with (
                   (go_at_call 40;with_reducible refine Ny.go R3 (qo hF (k:=7) (by decide) (hBu.mono (by omega)) hlu) fun e2 E2=>?_))
                 refine⟨⟨_,n+1,rfl,hnp,hBu.gd hlf7.2.2,HE.out,E2.out⟩,?_⟩;rw[E2.out.m.pOn,HP.out];show F.length-(u.p+1)<F.length-u.p;omega
                ·have HT1:=aa (show decide (0<k)=true by rw[hk1,ha]);have HE:=aa (show xR F n (ez 6 u)=X by rw[←HU.out,HN0.out];show fP F (ez 6 u)=fP F u;rw[CV hup hb hw (by rw[htx,ha])]);clear hk1 ha;go_wp2_with fail;have t1:_:=HT1.out;go_quiet (
                   (go_at_call 179;with_reducible exact HK.out _))
                 have R3:=aa (R2.out.drew nq);have t2:_:=HT2.out;go_wp2_with (
                   (go_at_call 40;with_reducible refine Ny.go R3 (qo hF (k:=6) (by decide) (hBu.mono (by omega)) hlu) fun e2 E2=>?_))
                 refine⟨⟨_,n,rfl,Nat.le_succ_of_le hnu,hBu.gd hlf6.2.2,HE.out,E2.out⟩,?_⟩;rw[E2.out.m.pOn,HP.out];show F.length-(u.p+1)<F.length-u.p;omega
               ·have t0:((n:Int)==0)=false:=aJ (by omega);have t1:IntKind.i64.wrap ((n:Int)+1)=(n:Int)+1:=aS _ (by omega);have HE:=aa (show xR F (n+1) (ez 7 u)=X by rw[←HU.out];unfold xR;rw[aB (by omega),aB hn0,xT hup hb hw]);have hnp:n+1≤(ez 7 u).p:=bH hnu;clear hk1;go_wp2_with fail;go_quiet (fail);have R3:=aa (R2.out.drew nq);go_wp2_with (
                  (go_at_call 40;with_reducible refine Ny.go R3 (qo hF (k:=7) (by decide) (hBu.mono (by omega)) hlu) fun e2 E2=>?_))
                refine⟨⟨_,n+1,rfl,hnp,hBu.gd hlf7.2.2,HE.out,E2.out⟩,?_⟩;rw[E2.out.m.pOn,HP.out];show F.length-(u.p+1)<F.length-u.p;omega
             case' false=>
               rw[hkd] at hw;clear hx2
           case' neg=>
             have hw:=sY hlu;obtain⟨A2,c2,z0,z3⟩:=R1.out.m.fc;have d2:decide ((u.p:Int)<(F.length:Int))=false:=aL (by omega)
           all_goals (
             have HE:=aa (show fP F (fC 5 s)=u by rw[←HXX.out,←HU.out];unfold xR;rw[CU hup hb hw,Am hup hb hw];split<;>rfl);clear hw;go_wp2_with fail;go_quiet (fail);have R2:=aa (R1.out.drew nq);go_wp2_with (
               (go_at_call 41;with_reducible refine Ny.go (Ny.cast R2 HE.out) (nW hF 5 (fP F) (by decide) (hB.mono (by omega)) HGE.out (by omega)) fun e2 E2=>?_))
             first|go_end0|refine bn ?_
             exact⟨rfl,by rw[HX.out];exact E2.out⟩)
      ·have hfun:mW F s=true:=HB.out.symm;have hX:iS F L s=kJ 16 (my F L) s:=by unfold iS;rw[aB (by rw[hcp];decide),aD hfun]
       have HX:=aa hX;have hf2:=hfun;unfold mW at hf2;simp only[aT,aR,bW] at hf2;obtain⟨e120,e40,hd2,_⟩:=hf2;have hlt2:s.p+1<F.length:=tB (by rw[e40];decide);have hB0:Bd F 25 (fC 16 {s with deep:=s.deep+1}):=⟨hB.p,by rw[Ct];have:=hB.l;show s.l.length+1≤46*s.p+25;omega,by show s.deep+1≤200;omega⟩;obtain⟨t0,ht0⟩:∃t0,t0=fC 16 {s with deep:=s.deep+1}:=⟨_,rfl⟩;have HT0:=aa ht0;rw[←ht0] at hB0;have hp0:t0.p<F.length∧s.p≤t0.p∧t0.p+1<F.length∧(ez 7 t0).p≤100000:=by rw[ht0];exact⟨hlt,au _,hlt2,by show s.p+1≤_;omega⟩
       obtain⟨hlt0,hsp0,_,hl5⟩:=hp0;have ew:eE F t0=ez 7 t0:=by unfold eE;rw[aD (Gz (by rw[ht0];exact e120))]
       have et:eB F [40] (eE F t0)=dM (ez 7 t0):=by rw[ew];exact lU (by rw[ju,ht0];show (sg F (s.p+1)==40)=true;rw[e40];rfl)
       have ET:=aa et;have hg1:=ie (F:=F) hB0.p;have hB1:=hB0.gd hg1;have hg2:=gr (F:=F) (cs:=[40]) (by decide) hB1.p;have hB2:=hB1.gd hg2;have hg3:=fO (F:=F) (c:=41) (by decide) hB2.p;have hB3:=hB2.gd hg3;have hg4:=dY (F:=F) hB3.p;have hB4:=hB3.gd hg4;have hq4:q≤(dK F (eF F 41 (eB F [40] (eE F t0)))).p+1:=aA hq (bH (aA hsp0 (aA hg1.p (aA hg2.p (aA hg3.p hg4.p)))));have HGE:=aa (show Gd F.length 2 (fC 16 {s with deep:=s.deep+1}) (my F L (fC 16 {s with deep:=s.deep+1})) from (wY hL (s:=fC 16 {s with deep:=s.deep+1}) e120).1);clear e120 e40 hX hfun ht0 ew et hd2
       cases hk:gu F (dK F (eF F 41 (eB F [40] (eE F t0))))
       case' false=>
         have HE:=aa (show my F L (fC 16 {s with deep:=s.deep+1})=eS (dK F (eF F 41 (eB F [40] (eE F t0)))) by rw[←HT0.out];unfold my;simp only[hk,bp,aI])
       case' true=>
         have HE:=aa (show my F L (fC 16 {s with deep:=s.deep+1})=gT F L (dK F (eF F 41 (eB F [40] (eE F t0)))) by rw[←HT0.out];unfold my;simp only[hk,bQ])
       all_goals (
         go_wp2_with (first
           | (go_at_call 41;with_reducible refine Ny.go (Ny.cast A6 HE.out) (GM hF 16 (my F L) (by decide) (hB.mono (by omega)) HGE.out (by omega)) fun a8 A8=>?_)
           | (go_at_call 113;with_reducible refine Ny.go A5 (nM hF (hB4.mono (by omega))) fun a6 A6=>?_)
           | (go_at_call 176;with_reducible refine Ny.go A5 (uC hF hL HL hq4 (hB4.mono (by omega)) hk) fun a6 A6=>?_)
           | (go_at_call 111;with_reducible refine Ny.go A4 (xi hF _ hB4.p hk) fun a5 A5=>?_)
           | (go_at_call 67;with_reducible refine Ny.go A3 (gx hF hB3.p) fun a4 A4=>?_)
           | (go_at_call 177;with_reducible refine Ny.go A2' (jB hF (hB2.mono (by omega)) 41 (by decide)) fun a3 A3=>?_)
           | (go_at_call 40;with_reducible refine Ny.inc A1' (hl5) (qo hF (k:=7) (by decide) (hB0.mono (by omega)) hlt0) fun a2 ga2 da2 ka2 va2 A2=>?_
              have A2':=Ny.cast A2 ET.out)
           | (go_at_call 36;with_reducible refine Ny.go J0 (zN hF 16 (by decide) (hB.mono (by omega))) fun a1 A1=>?_
              have A1':=Ny.cast A1 HT0.out)
           | fail)
         first|go_end0|refine bn ?_
         exact⟨rfl,by rw[HX.out];exact A8.out⟩)
   ·have HX:=aa (show iS F L s=gT F L s by unfold iS;rw[aD hcp]);go_enter Tryz.func143,Tryz.ntmps143
    go_wp2_with (first
      | (go_at_call 176;with_reducible refine Ny.go H2 (uC hF hL HL hq (hB.mono (by omega)) hcp) fun w3 H3=>?_)
      | (go_at_call 111;with_reducible refine Ny.go H1 (xi hF true hp hcp) fun w2 H2=>?_)
      | (go_at_call 65;with_reducible refine Ny.go H0 (CE hF true hp hcm) fun w1 H1=>?_)
      | fail)
    first|go_end0|refine bn ?_
    exact⟨rfl,by rw[HX.out];exact H3.out⟩
end
end
end Go.Proofs.YtcagfamdoaoimaaGreatDoor
