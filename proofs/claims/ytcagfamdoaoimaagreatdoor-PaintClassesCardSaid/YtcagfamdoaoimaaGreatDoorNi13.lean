/- The reference's parser: a call of a method in a walk; what the small methods tell. -/
import Derived.Test.YtcagfamdoaoimaaGreatDoorNf13
set_option linter.unusedVariables false
set_option linter.unusedSimpArgs false
set_option maxRecDepth 100000
set_option maxHeartbeats 8000000
namespace Go.Proofs.YtcagfamdoaoimaaGreatDoor
section
open Go.RowKit
theorem Ny.go {g:Nat} {fv:Value} {F:List Lf} {s t:Ps} {W W1:World} {f:FuncId} {av:Array Value} {r:Value} {Q:Ending→World→Prop} (U:Hid (Ny g fv F W s W1))
    (c:Nk g fv F s W1→Calls Tryz.prog f av W1 fun e w'=>e=.returned r∧Ny g fv F W1 t w') (k:∀w',Hid (Ny g fv F W t w')→Q (.returned r) w'):Calls Tryz.prog f av W1 Q:=
  (c U.out.m).mono (by rintro e w' ⟨rfl,hz⟩;exact k _ (aa (U.out.then hz)))
theorem Ny.inc {g:Nat} {fv:Value} {F:List Lf} {s t:Ps} {W W1:World} {f:FuncId} {av:Array Value} {r:Value} {Q:Ending→World→Prop} (U:Hid (Ny g fv F W s W1)) (ht:t.p≤100000)
    (c:Nk g fv F s W1→Calls Tryz.prog f av W1 fun e w'=>e=.returned r∧Ny g fv F W1 t w') (k:∀w',g<w'.heap.size→w'.cell? ⟨g,3,none⟩=some (.int .i64 (t.p:Int))→w'.frozen? ⟨g,3,none⟩=false→IntKind.i64.wrap ((t.p:Int)+1)=(t.p:Int)+1 →
      Hid (Ny g fv F W (dL t) (w'.setCell ⟨g,3,none⟩ (.int .i64 ((t.p:Int)+1))))→Q (.returned r) w'):Calls Tryz.prog f av W1 Q:=
  (c U.out.m).mono (by
    rintro e w' ⟨rfl,hz⟩;obtain⟨⟨_,_,d3,_,_⟩,_,e3,_,_⟩:=hz.m.cells;exact k _ hz.m.lt d3 e3 (aU _ (by omega)) (aa ((U.out.then hz).setP (t.p+1))))
theorem ju (F:List Lf) (c:UInt8) (s:Ps):dO F [c] s=(sg F s.p==c):=by
  unfold dO;rw[List.contains_cons];simp
section
variable {g:Nat} {fv:Value} {F:List Lf} {s:Ps} {W:World} (b:Bool) (hF:FB F)
include hF
theorem fe (hs:s.p≤F.length) (cs:List UInt8) (hcs:(cs.contains 0||decide (1000<cs.length))=false) (hb:dO F cs s=b) (h:Nk g fv F s W) :
    Calls Tryz.prog 37 #[.pointer (some ⟨g,0,none⟩),.string ⟨cs.toArray⟩] W fun e w'=>e=.returned (.bool b)∧Ny g fv F W s w':=by
  rw[Bool.or_eq_false_iff] at hcs;rw[←hb]
  exact(F1 hF h hs cs hcs.1 (by have:=of_decide_eq_false hcs.2;omega)).mono fun e w' ⟨h1,n,h2⟩=>⟨h1,by rw[h2];exact(Ny.start h).drew n⟩
omit hF in
theorem Nk.drews (h:Nk g fv F s W) (n:Nat):Nk g fv F s (W.drewN n):=((Ny.start h).drew n).m
theorem qL (hs:s.p≤F.length) (cs:List UInt8) (hcs:(cs.contains 0||decide (1000<cs.length))=false) (h:Nk g fv F s W) (n:Nat) :
    Calls Tryz.prog 37 #[.pointer (some ⟨g,0,none⟩),.string ⟨cs.toArray⟩] (W.drewN n) fun e w'=>e=.returned (.bool (dO F cs s))∧∃m,w'=W.drewN m:=by
  rw[Bool.or_eq_false_iff] at hcs
  exact(F1 hF (h.drews n) hs cs hcs.1 (by have:=of_decide_eq_false hcs.2;omega)).mono fun e w' ⟨h1,k,h2⟩=>⟨h1,n+k,by rw[h2,World.drewN_drewN]⟩
theorem EN (hs:s.p≤F.length) (h:Nk g fv F s W) :
    Nv 110 #[.pointer (some ⟨g,0,none⟩)] W (.bool (eN F s)):=by
  have hn:=hF.n;obtain⟨⟨c0,c1,c3,c4,c5⟩,_⟩:=h.cells;have hsl:=qo F;have v1:IntKind.i64.wrap ((s.p:Int)+1)=((s.p+1:Nat):Int):=by rw[aU _ (by omega)];omega
  have hr:eN F s=(dO F [60] s||dO F [35] s&&sg F (s.p+1)==60):=by unfold eN;rw[ju,ju]
  have q1:=qL hF hs [60] (by decide) h;have q2:=qL hF hs [35] (by decide) h;rw[hr];have hlt:dO F [35] s=true→s.p<F.length:=fun h=>dX h (by decide)
  have hT:∀i,i<F.length→(tr F)[i]? = some (sg F i):=fun i hi=>wh hi
  have hnil:¬s.p+1<F.length→sg F (s.p+1)=0:=fun h=>by unfold sg;rw[bZ (by omega)]
  generalize dO F [60] s=b1 at *;generalize dO F [35] s=b2 at *;obtain⟨T,hTe⟩:∃T,T=tr F:=⟨_,rfl⟩;rw[←hTe] at c1 hsl hT;obtain⟨i,hi⟩:∃i,i=s.p+1:=⟨_,rfl⟩;rw[←hi] at v1 hnil ⊢;have HQ:=aa (ac q1 q2);clear q1 q2 hr hTe h c0 c4 c5
  cases b1
  case' true=>
    clear hT hnil hlt hi
  case' false=>
    cases b2
    case' false=>
      clear hT hnil hlt hi
    case' true=>
      have u1:=hlt rfl;have u0:(0:Int)≤(i:Int):=by omega
      by_cases hi2:i<F.length
      case' pos=>
        have k1:=hT i hi2;obtain⟨c,hc⟩:∃c,c=sg F i:=⟨_,rfl⟩;rw[←hc] at k1 ⊢;obtain⟨g1,g2⟩:=az.1 k1;have g3:(ByteArray.mk T.toArray)[i]'(show i<T.length from g1)=c:=g2;have k2:((c.toNat:Int)==60)=(c==60):=jD c 60;obtain⟨bb,hbb⟩:∃bb,bb=(c==60):=⟨_,rfl⟩;rw[←hbb] at k2 ⊢;have t2:decide ((i:Int)<(T.length:Int))=true:=aI (by omega);have t3:decide (i<T.length)=true:=aI g1;clear hT hnil hlt hi k1 g2 hc hbb
      case' neg=>
        rw[hnil hi2];have t2:decide ((i:Int)<(T.length:Int))=false:=aP (by omega);have t3:decide (i<T.length)=false:=aP (by omega);clear hT hnil hlt hi
  all_goals (
    go_enter Tryz.func110,Tryz.ntmps110;go_wp2
    go_quiet (first
      | (go_at_call 37;with_reducible exact HQ.out.1 _)
      | (go_at_call 37;with_reducible exact HQ.out.2 _))
    go_wp2;go_ret;exact⟨rfl,_,rfl⟩)
end
theorem Nk.fc {g:Nat} {fv:Value} {F:List Lf} {s:Ps} {W:World} (h:Nk g fv F s W):∃A c,W.cell? ⟨g,0,none⟩=some (.slice A F.length c)∧W.cell? ⟨g,3,none⟩=some (.int .i64 (s.p:Int)):=by
  obtain⟨⟨c0,_,c3,_,_⟩,_⟩:=h.cells;obtain⟨A,c,rfl⟩:=h.f.formm;exact⟨A,c,c0,c3⟩
theorem Nk.wc {g:Nat} {fv:Value} {F:List Lf} {s:Ps} {W:World} (h:Nk g fv F s W) {x:Lf} (hx:F[s.p]? = some x):∃g1 o1 c,W.cell? ⟨g,0,none⟩=some (.slice (some ⟨g1,o1,none⟩) F.length c)∧W.cell? ⟨g,3,none⟩=some (.int .i64 (s.p:Int)) ∧
    W.cell? ⟨g1,o1+s.p*4,none⟩=some (.int .i64 x.kd)∧W.cell? ⟨g1,o1+s.p*4+1,none⟩=some (.string ⟨x.tx.toArray⟩):=by
  obtain⟨⟨c0,_,c3,_,_⟩,_⟩:=h.cells;obtain⟨A,c,rfl⟩:=h.f.formm;obtain⟨g1,o1,rfl,y0,y1,_,_⟩:=jo h.f hx rfl;exact⟨g1,o1,c,c0,c3,y0,y1⟩
section
variable {g:Nat} {fv:Value} {F:List Lf} {s:Ps} {W:World} (hF:FB F)
include hF
theorem nK (b:Bool) (hs:s.p≤F.length) (hb:eN F s=b) (h:Nk g fv F s W) :
    vU 110 g fv F W (.bool b) s:=by
  rw[←hb]
  exact(EN hF hs h).mono fun e w' ⟨h1,n,h2⟩=>⟨h1,by rw[h2];exact(Ny.start h).drew n⟩
theorem wU (b:Bool) (hs:s.p≤F.length) (hb:gw F s=b) (h:Nk g fv F s W) :
    vU 111 g fv F W (.bool b) s:=by
  rw[←hb];unfold gw;have H0:=aa (Ny.start h);clear h hb;obtain⟨d,hd⟩:∃d,d=decide (s.deep<200):=⟨_,rfl⟩;have hd2:decide ((s.deep:Int)<200)=d:=by rw[hd];exact decide_eq_decide.2 (by omega)
  obtain⟨z,hz⟩:∃z:Int,z=(s.deep:Int):=⟨_,rfl⟩;rw[←hz] at hd2;rw[←hd]
  cases ha:dO F [123,40,105,119,114,99] s;all_goals (
    have HA:=aa (ac ha hz);clear ha hd hz;go_enter Tryz.func111,Tryz.ntmps111;go_wp2_with (
      (go_at_call 37;with_reducible refine Ny.go H0 (fe _ hF hs [123,40,105,119,114,99] (by decide) HA.out.1) fun w1 H1=>?_
       obtain⟨⟨_,_,_,_,d5⟩,_⟩:=H1.out.m.cells;rw[←HA.out.2] at d5))
    go_ret;exact⟨by simp[Bool.and_comm],H1.out⟩)
theorem Cw (b:Bool) (hs:s.p≤F.length) (hb:pn F s=b) (h:Nk g fv F s W) :
    vU 65 g fv F W (.bool b) s:=by
  rw[←hb];unfold pn;rw[←ju];have H0:=aa (Ny.start h);clear h hb
  cases ha:dO F [120] s
  case' false=>
    cases hr:eN F s
    case' false=>cases hc:gw F s
  all_goals (
    go_enter Tryz.func65,Tryz.ntmps65
    go_wp2_with (first
      | (go_at_call 37;with_reducible refine Ny.go H0 (fe _ hF hs [120] (by decide) ha) fun w1 H1=>?_)
      | (go_at_call 110;with_reducible refine Ny.go H1 (nK hF _ hs hr) fun w2 H2=>?_)
      | (go_at_call 111;with_reducible refine Ny.go H2 (wU hF _ hs hc) fun w3 H3=>?_)
      | fail)
    go_ret;exact⟨rfl,by first|exact H3.out|exact H2.out|exact H1.out⟩)
theorem ni (b:Bool) (hs:s.p≤F.length) (hb:fM F s=b) (h:Nk g fv F s W) :
    vU 38 g fv F W (.bool b) s:=by
  rw[←hb];unfold fM;rw[←ju];have H0:=aa (Ny.start h);clear h hb
  cases ha:dO F [33] s
  case' false=>cases hr:pn F s
  all_goals (
    go_enter Tryz.func38,Tryz.ntmps38
    go_wp2_with (first
      | (go_at_call 37;with_reducible refine Ny.go H0 (fe _ hF hs [33] (by decide) ha) fun w1 H1=>?_)
      | (go_at_call 65;with_reducible refine Ny.go H1 (Cw hF _ hs hr) fun w2 H2=>?_)
      | fail)
    go_ret;exact⟨rfl,by first|exact H2.out|exact H1.out⟩)
theorem nS (hB:Bd F 100 s) (h:Nk g fv F s W):vU 113 g fv F W (.tuple #[]) (eP s):=Lw hF h hB
theorem qJ {k:Nat} (hk:(decide (1≤k)&&decide (k≤17) && !gR k)=true) (hB:Bd F 100 s) (hs:s.p<F.length) (h:Nk g fv F s W) :
    Calls Tryz.prog 40 #[.pointer (some ⟨g,0,none⟩),.int .i64 (k:Int)] W fun e w'=>e=.returned (.tuple #[])∧Ny g fv F W (er k s) w':=by
  simp only[aS,cg,Bool.not_eq_true'] at hk;exact MS k hk.1 hk.2 hF h hB hs
theorem jC (hB:Bd F 100 s) (c:UInt8) (hc:c≠0) (h:Nk g fv F s W) :
    Calls Tryz.prog 177 #[.pointer (some ⟨g,0,none⟩),.string ⟨#[c]⟩] W fun e w'=>e=.returned (.tuple #[])∧Ny g fv F W (eB F c s) w':=by
  have hn:=hF.n;have hp:=hB.p;have hc0:([c].contains 0||decide (1000<[c].length))=false:=by simp;exact fun e=>hc e.symm
  have H0:=aa (Ny.start h);clear h;unfold eB
  cases hb:dO F [c] s
  case' false=>
    rw[aB (by decide)]
  case' true=>
    rw[aC rfl]
  all_goals (
    go_enter Tryz.func177,Tryz.ntmps177)
  case false=>
    go_wp2_with (first
      | (go_at_call 37;with_reducible refine Ny.go H0 (fe _ hF hp [c] hc0 hb) fun w1 H1=>?_)
      | (go_at_call 113;with_reducible refine Ny.go H1 (nS hF hB) fun w2 H2=>?_)
      | fail)
    first|go_end0|refine bn ?_
    exact⟨rfl,H2.out⟩
  case true=>
    go_wp2_with (
      (go_at_call 37;with_reducible refine Ny.inc H0 (by omega) (fe _ hF hp [c] hc0 hb) fun w1 hg1 d1 e1 v1 H1=>?_))
    first|go_end0|refine bn ?_
    exact⟨rfl,H1.out⟩
theorem rD (hB:Bd F 100 s) (h:Nk g fv F s W) :
    vU 211 g fv F W (.tuple #[]) (eD F s):=by
  have hn:=hF.n;have hp:=hB.p;have u2:(0:Int)≤(s.p:Int):=by omega
  have H0:=aa (Ny.start h);by_cases hlt:s.p<F.length
  case' pos=>
    obtain⟨x,hx⟩:∃x,F[s.p]? = some x:=⟨_,ax hlt⟩;obtain⟨g1,o1,c,y0,y3,y1,_⟩:=h.wc hx;have hw:iR F s.p=(x.kd==6):=by unfold iR;rw[hx]
    have u1:(s.p:Int)<(F.length:Int):=by omega
    have d1:decide ((s.p:Int)<(F.length:Int))=true:=aI u1;clear h hx
    cases hk:(x.kd==6)
    case' true=>
      have e:eD F s=er 7 s:=by unfold eD;rw[hw,hk];rfl
    case' false=>
      have e:eD F s=eP s:=by unfold eD;rw[hw,hk];rfl
  case' neg=>
    obtain⟨A,c,y0,y3⟩:=h.fc;have d1:decide ((s.p:Int)<(F.length:Int))=false:=aP (by omega);have e:eD F s=eP s:=by unfold eD iR;rw[bZ (by omega)];rfl
    clear h
  all_goals (
    rw[e];clear e;go_enter Tryz.func211,Tryz.ntmps211;go_wp2;go_quiet (fail);have H1:=aa (H0.out.drew nq)
    go_wp2_with (first
      | (go_at_call 40;with_reducible refine Ny.go H1 (qJ hF (k:=7) (by decide) hB hlt) fun w2 H2=>?_)
      | (go_at_call 113;with_reducible refine Ny.go H1 (nS hF hB) fun w2 H2=>?_)
      | fail)
    first|go_end0|refine bn ?_
    exact⟨rfl,H2.out⟩)
def pOn (g:Nat) (w:World):Nat:=match w.cell? ⟨g,3,none⟩ with|some (.int _ p)=>p.toNat|_=>0
omit hF in
theorem Nk.pOn (h:Nk g fv F s W):Go.Proofs.YtcagfamdoaoimaaGreatDoor.pOn g W=s.p:=by
  unfold Go.Proofs.YtcagfamdoaoimaaGreatDoor.pOn;rw[h.cells.1.2.2.1];exact cO _
def KA (F:List Lf) (s:Ps):Nat:=(dJ F s).p-s.p
omit hF in
theorem Ky (hs:s.p≤F.length) (h:dO F [110] s=true):((KA F s:Int)==0)=false:=by
  have h1:=dX h (by decide);have h2:=LC.eq (lj (F:=F)) s hs;simp only[h,bN] at h2;have h3:=(dW (F:=F) (s:=dL s) h1).p;have h4:dJ F s=dJ F (dL s):=h2;refine aL ?_;unfold KA;rw[h4]
  have:s.p+1≤(dJ F (dL s)).p:=h3
  omega
omit hF in
theorem Kz (hs:s.p≤F.length) (h:dO F [110] s=false):((KA F s:Int)==0)=true∧dJ F s=s:=by
  have h2:=LC.eq (lj (F:=F)) s hs;simp only[h,bu,aK] at h2;have h4:dJ F s=s:=h2;refine⟨?_,h4⟩;unfold KA;rw[h4,Nat.sub_self];rfl
theorem gC (hs:s.p≤F.length) (h:Nk g fv F s W) :
    vU 67 g fv F W (.int .i64 (KA F s:Int)) (dJ F s):=by
  have hn:=hF.n;have H0:=aa (Ny.start h);have hm:(KA F s:Int)=((dJ F s).p:Int)-(s.p:Int):=by
    have:=(dW (F:=F) hs).p
    unfold KA;omega
  have HM:=aa hm;clear h hm;go_enter Tryz.func67,Tryz.ntmps67;go_wp2_with fail;go_loopw [3] (fun n wr=>∃u:Ps,u.p≤F.length∧s.p≤u.p∧n=.int .i64 ((u.p-s.p:Nat):Int)∧dJ F u=dJ F s∧Ny g fv F W u wr) (fun n wr=>F.length-pOn g wr)
  case atStart=>exact⟨s,hs,au _,by rw[Nat.sub_self];rfl,rfl,H0.out⟩
  case round=>
    obtain⟨u,hu,hsu,rfl,hlu,hz⟩:=hrel;have U0:=aa hz;have HU:=aa (ac hlu hz.m.pOn);clear hlu hz;obtain⟨k,hk⟩:∃k,k=u.p-s.p:=⟨_,rfl⟩;rw[←hk];have hk9:k≤900:=by omega
    have HK:=aa hk;clear hk;have hl:=LC.eq (lj (F:=F)) u hu
    cases hb:dO F [110] u
    ·simp only[hb,bu,aK] at hl;have HL:=aa hl;clear hl;go_wp2_with (
       (go_at_call 37;with_reducible refine Ny.go U0 (fe _ hF hu [110] (by decide) hb) fun w1 H1=>?_))
     go_ret;have e:dJ F s=u:=HU.out.1.symm.trans HL.out;have h9:(KA F s:Int)=(k:Int):=by
       rw[HM.out,e]
       have:=HK.out
       omega
     exact⟨by rw[h9];rfl,by rw[e];exact H1.out⟩
    ·simp only[hb,bN] at hl;have HL:=aa hl;clear hl;have hlt:=dX hb (by decide);go_wp2_with (
       (go_at_call 37;with_reducible refine Ny.inc U0 (by omega) (fe _ hF hu [110] (by decide) hb) fun w1 hg1 d1 e1 v1 H1=>?_))
     refine⟨⟨dL u,hlt,by show s.p≤u.p+1;omega,by show _=Value.int .i64 (((u.p+1)-s.p:Nat):Int);rw[show u.p+1-s.p=k+1 by rw[HK.out];omega];rfl,by rw[←HU.out.1];exact HL.out.symm,H1.out⟩,?_⟩;rw[H1.out.m.pOn,HU.out.2];show F.length-(u.p+1)<F.length-u.p;omega
end
theorem Ny.nxt {g:Nat} {fv:Value} {F:List Lf} {s:Ps} {W W1:World} (U:Hid (Ny g fv F W s W1)) (z:Int) (hz:z=(s.p:Int)+1):Hid (Ny g fv F W (dL s) (W1.setCell ⟨g,3,none⟩ (.int .i64 z))):=by
  subst hz;exact U.out.setP (s.p+1)
theorem Ny.inc3 {g:Nat} {fv:Value} {F:List Lf} {s:Ps} {W W1:World} (U:Hid (Ny g fv F W s W1)):g<W1.heap.size∧W1.cell? ⟨g,3,none⟩=some (.int .i64 (s.p:Int))∧W1.frozen? ⟨g,3,none⟩=false:=by
  obtain⟨⟨_,_,d3,_,_⟩,_,e3,_,_⟩:=U.out.m.cells;exact⟨U.out.m.lt,d3,e3⟩
theorem Ny.cast {g:Nat} {fv:Value} {F:List Lf} {s t:Ps} {W W1:World} (U:Hid (Ny g fv F W s W1)) (e:t=s):Hid (Ny g fv F W t W1):=by rw[e];exact U
theorem Cl (k:Nat) (s:Ps):(fC k s).l.length=s.l.length+1:=by show (s.l++[_]).length=_;simp
section
variable {g:Nat} {fv:Value} {F:List Lf} {s:Ps} {W:World} (hF:FB F)
include hF
theorem lp (k:Nat) (hk:(decide (k≤18) && !gR k)=true) (hB:Bd F 100 s) (h:Nk g fv F s W) :
    Calls Tryz.prog 36 #[.pointer (some ⟨g,0,none⟩),.int .i64 (k:Int)] W fun e w'=>e=.returned (.int .i64 s.up)∧Ny g fv F W (fC k s) w':=by
  simp only[aS,cg,Bool.not_eq_true'] at hk;exact wZ k hk.2 h (hB.l5 hF (by omega)) hk.1 (by have:=hB.d;omega)
theorem oo (k:Nat) (f:Ps→Ps) (hk:gR k=false) (hB:Bd F 100 s) {B:Nat} (hG:Gd F.length B (fC k s) (f (fC k s))) (hb:B≤1000) (h:Nk g fv F (f (fC k s)) W) :
    Calls Tryz.prog 41 #[.pointer (some ⟨g,0,none⟩),.int .i64 s.up] W fun e w'=>e=.returned (.tuple #[])∧Ny g fv F W (dN k f s) w':=by
  have h1:=hG.b;rw[Cl] at h1
  have:=hB.l5 hF (by omega)
  have:=hG.N
  have:=hF.n
  exact GZ k f hk hG h (by omega) (by have:=hB.d;omega)
theorem zA (k:Nat) (hk:(decide (k≤18)&&gR k)=true) (hB:Bd F 100 s) (h:Nk g fv F s W) :
    Calls Tryz.prog 36 #[.pointer (some ⟨g,0,none⟩),.int .i64 (k:Int)] W fun e w'=>e=.returned (.int .i64 s.up)∧Ny g fv F W (fC k {s with deep:=s.deep+1}) w':=by
  simp only[aS,cg] at hk;exact Kj k hk.2 h (hB.l5 hF (by omega)) hk.1 (by have:=hB.d;omega)
theorem GX (k:Nat) (f:Ps→Ps) (hk:gR k=true) (hB:Bd F 100 s) {B:Nat} (hG:Gd F.length B (fC k {s with deep:=s.deep+1}) (f (fC k {s with deep:=s.deep+1}))) (hb:B≤1000) (h:Nk g fv F (f (fC k {s with deep:=s.deep+1})) W) :
    Calls Tryz.prog 41 #[.pointer (some ⟨g,0,none⟩),.int .i64 s.up] W fun e w'=>e=.returned (.tuple #[])∧Ny g fv F W (jA k f s) w':=by
  have h1:=hG.b;rw[Cl] at h1;have h2:({s with deep:=s.deep+1}:Ps).l.length=s.l.length:=rfl
  have:=hB.l5 hF (by omega)
  have:=hG.N
  have:=hF.n
  exact Ng k f hk hG h (by omega) (by have:=hB.d;omega)
theorem tB (hB:Bd F 99 s) (hb:eN F s=true) (h:Nk g fv F s W) :
    vU 178 g fv F W (.tuple #[]) (fH F s):=by
  have hn:=hF.n;have hp:=hB.p;have hi:=hB.inn 8;have hi5:(fC 8 s).p≤100000:=by show s.p≤_;omega
  have hw1:=fW (F:=F) (cs:=[35]) (by decide) hi.p;have hw2:=fW (F:=F) (cs:=[60]) (by decide) hw1.N;have hw3:=gP (F:=F) hw2.N;have hG:=(hw1.trans hw2).trans hw3;have H0:=aa (Ny.start h);clear h
  cases ha:dO F [35] (fC 8 s)
  ·have e1:eA F [35] (fC 8 s)=fC 8 s:=pJ ha;have e2:eA F [60] (fC 8 s)=dL (fC 8 s):=ml (by
     rw[ju] at ha ⊢;have h0:sg F (fC 8 s).p=sg F s.p:=rfl;rw[h0] at ha ⊢;unfold eN at hb;rw[ha,cV,Bool.or_false] at hb;exact hb)
   obtain⟨f,hf⟩:∃f:Ps→Ps,f=fun s=>eD F (eA F [60] (eA F [35] s)):=⟨_,rfl⟩
   have hx:fH F s=dN 8 f s:=by rw[hf];rfl
   have hB2:Bd F 100 (dL (fC 8 s)):=⟨by show s.p+1≤_;exact tC hb,by have:=hi.l;show _≤46*(s.p+1)+100;have:(dL (fC 8 s)).l.length=(fC 8 s).l.length:=rfl;have:(fC 8 s).p=s.p:=rfl;omega,hB.d⟩;rw[e1,e2] at hG;rw[hx];have HE:=aa (show f (fC 8 s)=eD F (dL (fC 8 s)) by rw[hf];simp only;rw[e1,e2]);have HG:=aa (show Gd F.length _ (fC 8 s) (f (fC 8 s)) by rw[HE.out];exact hG);clear hw1 hw2 hw3 e1 e2 hx hG hf;go_enter Tryz.func178,Tryz.ntmps178
   go_wp2_with (first
     | (go_at_call 36;with_reducible refine Ny.go H0 (lp hF 8 (by decide) (hB.mono (by omega))) fun w1 H1=>?_)
     | (go_at_call 37;with_reducible refine Ny.inc H1 hi5 (fe _ hF hi.p [35] (by decide) ha) fun w2 hg2 d2 k2 v2 H2=>?_)
     | (go_at_call 211;with_reducible refine Ny.go H2 (rD hF hB2) fun w3 H3=>?_)
     | (go_at_call 41;with_reducible refine Ny.go (Ny.cast H3 HE.out) (oo hF 8 f (by decide) (hB.mono (by omega)) HG.out (by omega)) fun w4 H4=>?_)
     | fail)
   first|go_end0|refine bn ?_
   exact⟨rfl,H4.out⟩
  ·have hlt:s.p<F.length:=tC hb;have e1:eA F [35] (fC 8 s)=dL (fC 8 s):=ml ha;have h60:sg F (s.p+1)=60:=by
     rw[ju] at ha;have h0:sg F (fC 8 s).p=sg F s.p:=rfl;rw[h0] at ha;unfold eN at hb;rw[ha,cS] at hb;have h1:sg F s.p=35:=by simpa using ha
     rw[h1] at hb;simpa using hb
   have hlt2:s.p+1<F.length:=tu (by rw[h60];decide);have e2:eA F [60] (dL (fC 8 s))=dL (dL (fC 8 s)):=ml (by rw[ju];show (sg F (s.p+1)==60)=true;rw[h60];rfl);obtain⟨f,hf⟩:∃f:Ps→Ps,f=fun s=>eD F (eA F [60] (eA F [35] s)):=⟨_,rfl⟩
   have hx:fH F s=dN 8 f s:=by rw[hf];rfl
   have hB2:Bd F 100 (dL (dL (fC 8 s))):=⟨by show s.p+1+1≤_;omega,by have:=hi.l;show _≤46*(s.p+1+1)+100;have:(dL (dL (fC 8 s))).l.length=(fC 8 s).l.length:=rfl;have:(fC 8 s).p=s.p:=rfl;omega,hB.d⟩;rw[e1,e2] at hG;rw[hx];have HE:=aa (show f (fC 8 s)=eD F (dL (dL (fC 8 s))) by rw[hf];simp only;rw[e1,e2]);have v3:IntKind.i64.wrap ((s.p:Int)+1+1)=(s.p:Int)+1+1:=aU _ (by omega);have HG:=aa (show Gd F.length _ (fC 8 s) (f (fC 8 s)) by rw[HE.out];exact hG);clear hw1 hw2 hw3 e1 e2 hx hG hf;go_enter Tryz.func178,Tryz.ntmps178
   go_wp2_with (first
     | (go_at_call 36;with_reducible refine Ny.go H0 (lp hF 8 (by decide) (hB.mono (by omega))) fun w1 H1=>?_)
     | (go_at_call 37;with_reducible refine Ny.inc H1 hi5 (fe _ hF hi.p [35] (by decide) ha) fun w2 hg2 d2 k2 v2 H2=>?_
        have H2':=Ny.nxt H2 ((s.p:Int)+1+1) rfl)
     | (go_at_call 211;with_reducible refine Ny.go H2' (rD hF hB2) fun w3 H3=>?_)
     | (go_at_call 41;with_reducible refine Ny.go (Ny.cast H3 HE.out) (oo hF 8 f (by decide) (hB.mono (by omega)) HG.out (by omega)) fun w4 H4=>?_)
     | fail)
   first|go_end0|refine bn ?_
   exact⟨rfl,H4.out⟩
end
def sG (g:Nat) (fv:Value) (F:List Lf) (L:Ps→Ps) (q:Nat):Prop:=∀(s:Ps) (W:World),q≤s.p→Bd F 19 s→fM F s=true→Nk g fv F s W →
  vU 39 g fv F W (.tuple #[]) (dN 2 L s)
theorem AQ {g:Nat} {fv:Value} {F:List Lf} {L:Ps→Ps} {q:Nat} {s:Ps} {W:World} (HL:sG g fv F L q) (hq:q≤s.p) (hB:Bd F 19 s) (hb:fM F s=true) (h:Nk g fv F s W) :
    vU 39 g fv F W (.tuple #[]) (dN 2 L s):=HL s W hq hB hb h
section
variable {g:Nat} {fv:Value} {F:List Lf} {L:Ps→Ps} {q:Nat} {s:Ps} {W:World} (hF:FB F) (hL:GL F L) (HL:sG g fv F L q)
include hF HL
theorem nw (hq:q≤s.p) (hB:Bd F 14 s) (h:Nk g fv F s W) :
    vU 207 g fv F W (.tuple #[]) (eJ F L s):=by
  have hp:=hB.p;have hg1:=dW (F:=F) hp;have hB1:=hB.gd hg1;have hq1:q≤(dJ F s).p:=aA hq hg1.p;have H0:=aa (Ny.start h);clear h;unfold eJ
  cases hb:fM F (dJ F s)
  case' false=>rw[aB (by decide)]
  case' true=>rw[aC rfl]
  all_goals (
    go_enter Tryz.func207,Tryz.ntmps207
    go_wp2_with (first
      | (go_at_call 67;with_reducible refine Ny.go H0 (gC hF hp) fun w1 H1=>?_)
      | (go_at_call 38;with_reducible refine Ny.go H1 (ni hF _ hB1.p hb) fun w2 H2=>?_)
      | (go_at_call 39;with_reducible refine Ny.go H2 (AQ HL hq1 (hB1.mono (by omega)) hb) fun w3 H3=>?_)
      | (go_at_call 113;with_reducible refine Ny.go H2 (nS hF (hB1.mono (by omega))) fun w3 H3=>?_)
      | fail)
    first|go_end0|refine bn ?_
    exact⟨rfl,H3.out⟩)
include hL
theorem sa (hq:q≤s.p) (hB:Bd F 9 s) (h:Nk g fv F s W) :
    vU 208 g fv F W (.tuple #[]) (wR F L s):=by
  have hg1:=fA (F:=F) (c:=100) (by decide) hB.p;have hB1:=hB.gd hg1;have hq1:=aA hq hg1.p;have hB2:=hB1.gd (fG hL hB1.p);have H0:=aa (Ny.start h);clear h;unfold wR;go_enter Tryz.func208,Tryz.ntmps208
  go_wp2_with (first
    | (go_at_call 177;with_reducible refine Ny.go H2 (jC hF (hB2.mono (by omega)) 103 (by decide)) fun w3 H3=>?_)
    | (go_at_call 207;with_reducible refine Ny.go H1 (nw hF HL hq1 (hB1.mono (by omega))) fun w2 H2=>?_)
    | (go_at_call 177;with_reducible refine Ny.go H0 (jC hF (hB.mono (by omega)) 100 (by decide)) fun w1 H1=>?_)
    | fail)
  first|go_end0|refine bn ?_
  exact⟨rfl,H3.out⟩
end
theorem wK (l:List UInt8) (b:Bool) (hb:iL l=b) (hl:l.length≤100000) (W:World) (n:Nat):Calls Tryz.prog 158 #[.string ⟨l.toArray⟩] (W.drewN n) fun e w'=>e=.returned (.bool b)∧∃m,w'=W.drewN m:=
  (qS l _ hl).mono fun e w' ⟨h1,h2⟩=>⟨by rw[h1,Gi,hb],n,h2.symm⟩
theorem LC.yy {N B:Nat} {s t:Ps} {r:Ps×Bool} (h:LC N B s r) (e:r=(t,true)):Gd N 0 s t∧s.p<t.p:=by rw[e] at h;exact h.1 rfl
theorem LC.goy {N B:Nat} {c:Ps→Ps×Bool} {s t:Ps} (h:∀s,s.p≤N→LC N B s (c s)) (hs:s.p≤N) (e:c s=(t,true)):eM N c s=eM N c t:=by
  have h1:=LC.eq h s hs;simp only[e,bN] at h1;exact h1
theorem LC.gon {N B:Nat} {c:Ps→Ps×Bool} {s t:Ps} (h:∀s,s.p≤N→LC N B s (c s)) (hs:s.p≤N) (e:c s=(t,false)):eM N c s=t:=by
  have h1:=LC.eq h s hs;simp only[e,bu,aK] at h1;exact h1
theorem rO {F:List Lf} {i:Nat} {x:Lf} (hx:F[i]? = some x):iR F i=(x.kd==6):=by unfold iR;rw[hx]
theorem DX {F:List Lf} {i:Nat} {x:Lf} (hx:F[i]? = some x):tx F i=x.tx:=by unfold tx;rw[hx]
theorem sY {F:List Lf} {i:Nat} (h:¬i<F.length):iR F i=false:=by unfold iR;rw[bZ (by omega)]
section
variable {g:Nat} {fv:Value} {F:List Lf} {L:Ps→Ps} {q:Nat} {s:Ps} {W:World} (hF:FB F) (hL:GL F L) (HL:sG g fv F L q)
include hF hL HL
theorem M9 (hq:q≤s.p) (hB:Bd F 0 s) (h:Nk g fv F s W) :
    vU 209 g fv F W (.tuple #[]) (gz F L s):=by
  have hn:=hF.n;have hp:=hB.p;obtain⟨T,hT⟩:∃T,T=gz F L s:=⟨_,rfl⟩;rw[←hT];have H0:=aa (Ny.start h);have us:(0:Int)≤(s.p:Int):=by omega
  have key:∃s1,s1=(if (iR F s.p&&iL (tx F s.p))=true then er 7 s else eP s):=⟨_,rfl⟩;obtain⟨s1,hs1⟩:=key;have hg1:Gd F.length 1 s s1:=by rw[hs1];exact Gd.ite (fun hc=>(fY (fN ((aS _ _).mp hc).1)).1) (fun _=>g9 hp)
  have hB1:=hB.gd hg1;have hq1:q≤s1.p:=aA hq hg1.p;have hT1:T=wR F L (if dO F [59] s1=true then dJ F (dL s1) else if dO F [107] (dJ F s1)=true then vI F (dJ F s1) else dJ F s1):=by rw[hT,hs1];rfl
  have HG:=aa (ac hg1 hT1);clear hT hT1 hg1;by_cases hlt:s.p<F.length
  case' pos=>
    obtain⟨x,hx⟩:∃x,F[s.p]? = some x:=⟨_,ax hlt⟩;have hxl:=hF.t x (aT hx);rw[rO hx,DX hx] at hs1;obtain⟨g1,o1,c,y0,y3,y1,y2⟩:=h.wc hx;have u1:(s.p:Int)<(F.length:Int):=by omega
    have d1:decide ((s.p:Int)<(F.length:Int))=true:=aI u1;clear h hx
    cases hk:(x.kd==6)
    case' false=>
      rw[hk] at hs1;replace hs1:s1=eP s:=hs1
    case' true=>
      rw[hk] at hs1
      cases hm:iL x.tx
      case' false=>
        rw[hm] at hs1;replace hs1:s1=eP s:=hs1;have HN:=aa (wK x.tx false hm (by omega) W)
      case' true=>
        rw[hm] at hs1;replace hs1:s1=er 7 s:=hs1;have HN:=aa (wK x.tx true hm (by omega) W)
      all_goals clear hm
  case' neg=>
    obtain⟨A,c,y0,y3⟩:=h.fc;have d1:decide ((s.p:Int)<(F.length:Int))=false:=aP (by omega);rw[sY hlt] at hs1;replace hs1:s1=eP s:=hs1;clear h
  all_goals (
    have H1':=aa hs1;clear hs1;go_enter Tryz.func209,Tryz.ntmps209;go_wp2_with fail;go_quiet (
      (go_at_call 158;with_reducible exact HN.out _))
    have HQ:=aa (H0.out.drew nq)
    go_upto_region 3 with (first
      | (go_at_call 40;with_reducible refine Ny.go HQ (qJ hF (k:=7) (by decide) (hB.mono (by omega)) hlt) fun w1 H1=>?_)
      | (go_at_call 113;with_reducible refine Ny.go HQ (nS hF (hB.mono (by omega))) fun w1 H1=>?_)
      | fail)
    have H1:=Ny.cast H1 H1'.out;try clear HN
    clear H1' HQ H0 d1 y0 y3
    cases ha:dO F [59] s1
    ·have hg2:=dW (F:=F) hB1.p;have hB2:=hB1.gd hg2;have hq2:q≤(dJ F s1).p:=aA hq1 hg2.p
     cases hk2:dO F [107] (dJ F s1)
     ·have e:T=wR F L (dJ F s1):=by rw[HG.out.2,aB (by rw[ha];decide),aB (by rw[hk2];decide)]
      go_wp2_with (first
        | (go_at_call 208;with_reducible refine Ny.go H4 (sa hF hL HL hq2 (hB2.mono (by omega))) fun w5 H5=>?_)
        | (go_at_call 37;with_reducible refine Ny.go H3 (fe _ hF hB2.p [107] (by decide) hk2) fun w4 H4=>?_)
        | (go_at_call 67;with_reducible refine Ny.go H2 (gC hF hB1.p) fun w3 H3=>?_)
        | (go_at_call 37;with_reducible refine Ny.go H1 (fe _ hF hB1.p [59] (by decide) ha) fun w2 H2=>?_)
        | fail)
      first|go_end0|refine bn ?_
      exact⟨rfl,by rw[e];exact H5.out⟩
     ·have hlt4:=dX hk2 (by decide);have hn4:=hB2.next hlt4 (by omega);have hq4:q≤(dL (dJ F s1)).p:=aA hq2 (bM _);have HT:=aa (show T=wR F L (vI F (dJ F s1)) by rw[HG.out.2,aB (by rw[ha];decide),aC hk2])
      go_wp2_with (first
        | (go_at_call 37;with_reducible refine Ny.inc H3 (by omega) (fe _ hF hB2.p [107] (by decide) hk2) fun w4 gw4 dw4 kw4 vw4 H4=>?_)
        | (go_at_call 67;with_reducible refine Ny.go H2 (gC hF hB1.p) fun w3 H3=>?_)
        | (go_at_call 37;with_reducible refine Ny.go H1 (fe _ hF hB1.p [59] (by decide) ha) fun w2 H2=>?_)
        | fail)
      go_loopw [] (fun wr=>∃u:Ps,q≤u.p∧Bd F 0 u∧jg F u=jg F (dL (dJ F s1))∧Ny g fv F W u wr) (fun wr=>F.length-pOn g wr)
      case atStart=>exact⟨_,hq4,hn4,rfl,H4.out⟩
      case round=>
        obtain⟨u,hqu,hBu,hlu,hz⟩:=hrel;have U0:=aa hz;have HU:=aa hlu;have HP:=aa hz.m.pOn;have uu:(0:Int)≤(u.p:Int):=by omega
        have hup:=hBu.p;clear hlu;by_cases hlu:u.p<F.length
        case' pos=>
          obtain⟨x2,hx2⟩:∃x,F[u.p]? = some x:=⟨_,ax hlu⟩;have hw:=rO hx2;obtain⟨g2,o2,c2,z0,z3,z1,z2⟩:=hz.m.wc hx2;have ul:(u.p:Int)<(F.length:Int):=by omega
          have d2:decide ((u.p:Int)<(F.length:Int))=true:=aI ul;clear hz hx2
          cases hkd:(x2.kd==6)
          case' true=>
            rw[hkd] at hw;have hy:=(iJ (F:=F) u hBu.p).yy (t:=er 7 u) (by rw[aC hw]);have HE:=aa ((LC.goy iJ hBu.p (t:=er 7 u) (by show (if _ then _ else _)=_;rw[aC hw])).symm.trans HU.out);go_wp2_with fail;go_quiet (fail);have UQ:=aa (U0.out.drew nq);go_wp2_with (
              (go_at_call 40;with_reducible refine Ny.go UQ (qJ hF (k:=7) (by decide) (hBu.mono (by omega)) hlu) fun w6 H6=>?_))
            refine⟨⟨_,aA hqu (bj hy.2),hBu.gd hy.1,HE.out,H6.out⟩,?_⟩;rw[H6.out.m.pOn,HP.out]
            have:=hy.2
            have:=hy.1.N
            omega
          case' false=>
            rw[hkd] at hw
        case' neg=>
          have hw:=sY hlu;obtain⟨A2,c2,z0,z3⟩:=hz.m.fc;have d2:decide ((u.p:Int)<(F.length:Int))=false:=aP (by omega);clear hz
        all_goals (
          have HE:=aa (HU.out.symm.trans (LC.gon iJ hBu.p (t:=u) (by show (if _ then _ else _)=_;rw[aB (by rw[hw];decide)])));go_wp2_with fail;go_quiet (fail);have UQ:=aa (U0.out.drew nq);clear hw z0 z3 d2
          cases hc:dO F [59] u
          ·cases hd:dO F [110] u
           ·obtain⟨hz,hz2⟩:=Kz hBu.p hd;have HZ:=aa hz2.symm;clear hz2;have hg7:=g9 (F:=F) hBu.p;have hB7:=hBu.gd hg7;have hq7:q≤(eP u).p:=aA hqu hg7.p;have e:T=wR F L (eP u):=by rw[HT.out];unfold vI;rw[HE.out];simp only[hc,hd,bu,aK]
            go_wp2_with (first
              | (go_at_call 208;with_reducible refine Ny.go H8 (sa hF hL HL hq7 (hB7.mono (by omega))) fun w9 H9=>?_)
              | (go_at_call 113;with_reducible refine Ny.go (Ny.cast H7 HZ.out) (nS hF (hBu.mono (by omega))) fun w8 H8=>?_)
              | (go_at_call 67;with_reducible refine Ny.go H6 (gC hF hBu.p) fun w7 H7=>?_)
              | (go_at_call 37;with_reducible refine Ny.go UQ (fe _ hF hBu.p [59] (by decide) hc) fun w6 H6=>?_)
              | fail)
            first|go_end0|refine bn ?_
            exact⟨rfl,by rw[e];exact H9.out⟩
           ·have hz:=Ky hBu.p hd;have hg7:=dW (F:=F) hBu.p;have hB7:=hBu.gd hg7;have hq7:q≤(dJ F u).p:=aA hqu hg7.p;have e:T=wR F L (dJ F u):=by rw[HT.out];unfold vI;rw[HE.out];simp only[hc,hd,bN,bu,aK]
            go_wp2_with (first
              | (go_at_call 208;with_reducible refine Ny.go H7 (sa hF hL HL hq7 (hB7.mono (by omega))) fun w8 H8=>?_)
              | (go_at_call 67;with_reducible refine Ny.go H6 (gC hF hBu.p) fun w7 H7=>?_)
              | (go_at_call 37;with_reducible refine Ny.go UQ (fe _ hF hBu.p [59] (by decide) hc) fun w6 H6=>?_)
              | fail)
            first|go_end0|refine bn ?_
            exact⟨rfl,by rw[e];exact H8.out⟩
          ·have hlt6:=dX hc (by decide)
           first
             | exact absurd hlt6 hlu
             | (have hn6:=hBu.next hlt6 (by omega);have hg7:=dW (F:=F) hn6.p;have hB7:=hn6.gd hg7;have hq7:q≤(dJ F (dL u)).p:=aA hqu (aA (bM _) hg7.p);have e:T=wR F L (dJ F (dL u)):=by rw[HT.out];unfold vI;rw[HE.out];simp only[hc,bN]
                go_wp2_with (first
                  | (go_at_call 208;with_reducible refine Ny.go H7 (sa hF hL HL hq7 (hB7.mono (by omega))) fun w8 H8=>?_)
                  | (go_at_call 67;with_reducible refine Ny.go H6 (gC hF hn6.p) fun w7 H7=>?_)
                  | (go_at_call 37;with_reducible refine Ny.inc UQ (by omega) (fe _ hF hBu.p [59] (by decide) hc) fun w6 gw6 dw6 kw6 vw6 H6=>?_)
                  | fail)
                first|go_end0|refine bn ?_
                exact⟨rfl,by rw[e];exact H8.out⟩))
    ·have hlt4:=dX ha (by decide);have hn4:=hB1.next hlt4 (by omega);have hg5:=dW (F:=F) hn4.p;have hB5:=hn4.gd hg5;have hq5:q≤(dJ F (dL s1)).p:=aA hq1 (aA (bM _) hg5.p);have e:T=wR F L (dJ F (dL s1)):=by rw[HG.out.2,aC ha]
     go_wp2_with (first
       | (go_at_call 208;with_reducible refine Ny.go H3 (sa hF hL HL hq5 (hB5.mono (by omega))) fun w4 H4=>?_)
       | (go_at_call 67;with_reducible refine Ny.go H2 (gC hF hn4.p) fun w3 H3=>?_)
       | (go_at_call 37;with_reducible refine Ny.inc H1 (by omega) (fe _ hF hB1.p [59] (by decide) ha) fun w2 gw2 dw2 kw2 vw2 H2=>?_)
       | fail)
     first|go_end0|refine bn ?_
     exact⟨rfl,by rw[e];exact H4.out⟩)
end
section
variable {g:Nat} {fv:Value} {F:List Lf} {L:Ps→Ps} {q:Nat} {s:Ps} {W:World} (hF:FB F) (hL:GL F L) (HL:sG g fv F L q)
include hF hL HL
theorem Ke (hq:q≤s.p) (hB:Bd F 0 s) (h:Nk g fv F s W) :
    vU 210 g fv F W (.tuple #[]) (je F L s):=by
  have hn:=hF.n;have hp:=hB.p;obtain⟨T,hT⟩:∃T,T=je F L s:=⟨_,rfl⟩;rw[←hT];have HT:=aa (show T=eB F 122 ((eM F.length (fun s=>if gh F s=true then (if dO F [121] (dN 15 (dZ F L) s)=true then (dJ F (dL (dN 15 (dZ F L) s)),true) else (dN 15 (dZ F L) s,false)) else (s,false))) (dJ F (eB F 107 (dJ F (eD F s))))) from hT);clear hT;have hg1:=gP (F:=F) hp;have hB1:=hB.gd hg1;have hg2:=dW (F:=F) hB1.p;have hB2:=hB1.gd hg2;have hg3:=fA (F:=F) (c:=107) (by decide) hB2.p;have hB3:=hB2.gd hg3;have hg4:=dW (F:=F) hB3.p;have hB4:=hB3.gd hg4;have hq4:=aA hq (aA hg1.p (aA hg2.p (aA hg3.p hg4.p)));have H0:=aa (Ny.start h);clear h;go_enter Tryz.func210,Tryz.ntmps210
  go_wp2_with (first
    | (go_at_call 67;with_reducible refine Ny.go H3 (gC hF hB3.p) fun w4 H4=>?_)
    | (go_at_call 177;with_reducible refine Ny.go H2 (jC hF (hB2.mono (by omega)) 107 (by decide)) fun w3 H3=>?_)
    | (go_at_call 67;with_reducible refine Ny.go H1 (gC hF hB1.p) fun w2 H2=>?_)
    | (go_at_call 211;with_reducible refine Ny.go H0 (rD hF (hB.mono (by omega))) fun w1 H1=>?_)
    | fail)
  go_loopw [2] (fun v wr=>∃(u:Ps) (b:Bool),v=.bool b∧q≤u.p∧Bd F 5 u∧(if b=true then eM F.length (fun s=>if gh F s=true then (if dO F [121] (dN 15 (dZ F L) s)=true then (dJ F (dL (dN 15 (dZ F L) s)),true) else (dN 15 (dZ F L) s,false)) else (s,false)) u=eM F.length (fun s=>if gh F s=true then (if dO F [121] (dN 15 (dZ F L) s)=true then (dJ F (dL (dN 15 (dZ F L) s)),true) else (dN 15 (dZ F L) s,false)) else (s,false)) (dJ F (eB F 107 (dJ F (eD F s)))) else u=eM F.length (fun s=>if gh F s=true then (if dO F [121] (dN 15 (dZ F L) s)=true then (dJ F (dL (dN 15 (dZ F L) s)),true) else (dN 15 (dZ F L) s,false)) else (s,false)) (dJ F (eB F 107 (dJ F (eD F s)))))∧Ny g fv F W u wr) (fun v wr=>F.length-pOn g wr)
  case atStart=>exact⟨_,true,rfl,hq4,hB4.mono (by omega),by rw[aC rfl],H4.out⟩
  case round=>
    obtain⟨u,b,rfl,hqu,hBu,hU,hz⟩:=hrel;have U0:=aa hz;have HU:=aa hU;have HP:=aa hz.m.pOn;have hup:=hBu.p;have uu:(0:Int)≤(u.p:Int):=by omega
    clear hU
    cases b
    ·have HX:=aa (show u=eM F.length (fun s=>if gh F s=true then (if dO F [121] (dN 15 (dZ F L) s)=true then (dJ F (dL (dN 15 (dZ F L) s)),true) else (dN 15 (dZ F L) s,false)) else (s,false)) (dJ F (eB F 107 (dJ F (eD F s)))) by have h1:=HU.out;rw[aB (by decide)] at h1;exact h1);clear hz;go_wp2_with fail;go_quiet (fail);have UQ:=aa (U0.out.drew nq);go_wp2_with (
       (go_at_call 177;with_reducible refine Ny.go UQ (jC hF (hBu.mono (by omega)) 122 (by decide)) fun w6 H6=>?_))
     first|go_end0|refine bn ?_
     exact⟨rfl,by rw[HT.out,←HX.out];exact H6.out⟩
    ·have HV:=aa (show eM F.length (fun s=>if gh F s=true then (if dO F [121] (dN 15 (dZ F L) s)=true then (dJ F (dL (dN 15 (dZ F L) s)),true) else (dN 15 (dZ F L) s,false)) else (s,false)) u=eM F.length (fun s=>if gh F s=true then (if dO F [121] (dN 15 (dZ F L) s)=true then (dJ F (dL (dN 15 (dZ F L) s)),true) else (dN 15 (dZ F L) s,false)) else (s,false)) (dJ F (eB F 107 (dJ F (eD F s)))) by have h1:=HU.out;rw[aC rfl] at h1;exact h1);clear HU;have q1:=qL hF hup [40] (by decide) hz.m;have q2:=qL hF hup [122] (by decide) hz.m;have hi:gh F u=(dO F [40] u||iR F u.p && !dO F [122] u):=by unfold gh;rw[ju,ju];rfl
     have key:dO F [40] u=true∨(dO F [40] u=false∧u.p<F.length∧iR F u.p=true∧dO F [122] u=false)∨(dO F [40] u=false∧u.p<F.length∧iR F u.p=true∧dO F [122] u=true)∨(dO F [40] u=false∧u.p<F.length∧iR F u.p=false)∨(dO F [40] u=false∧¬u.p<F.length):=by
       by_cases hl:u.p<F.length<;>cases dO F [40] u<;>cases iR F u.p<;>cases dO F [122] u<;>simp[hl]
     rcases key with h1|⟨h1,hlu,hw,h2⟩|⟨h1,hlu,hw,h2⟩|⟨h1,hlu,hw⟩|⟨h1,hlu⟩
     case' inl=>
       have hib:gh F u=true:=by rw[hi,h1];rfl
       rw[h1] at q1
     case' inr.inl=>
       have hib:gh F u=true:=by rw[hi,h1,hw,h2];rfl
       rw[h1] at q1;rw[h2] at q2;obtain⟨x2,hx2⟩:∃x,F[u.p]? = some x:=⟨_,ax hlu⟩;obtain⟨g2,o2,c2,z0,z3,z1,z2⟩:=hz.m.wc hx2;have ul:(u.p:Int)<(F.length:Int):=by omega
       have d2:decide ((u.p:Int)<(F.length:Int))=true:=aI ul;rw[rO hx2] at hw
     case' inr.inr.inl=>
       have hib:gh F u=false:=by rw[hi,h1,hw,h2];rfl
       rw[h1] at q1;rw[h2] at q2;obtain⟨x2,hx2⟩:∃x,F[u.p]? = some x:=⟨_,ax hlu⟩;obtain⟨g2,o2,c2,z0,z3,z1,z2⟩:=hz.m.wc hx2;have ul:(u.p:Int)<(F.length:Int):=by omega
       have d2:decide ((u.p:Int)<(F.length:Int))=true:=aI ul;rw[rO hx2] at hw;have HX:=aa (show u=eM F.length (fun s=>if gh F s=true then (if dO F [121] (dN 15 (dZ F L) s)=true then (dJ F (dL (dN 15 (dZ F L) s)),true) else (dN 15 (dZ F L) s,false)) else (s,false)) (dJ F (eB F 107 (dJ F (eD F s)))) by
         rw[←HV.out]
         exact(LC.gon (iz hL) hBu.p (by show (if _ then _ else _)=_;rw[aB (by rw[hib];decide)])).symm)
     case' inr.inr.inr.inl=>
       have hib:gh F u=false:=by rw[hi,h1,hw];rfl
       rw[h1] at q1;obtain⟨x2,hx2⟩:∃x,F[u.p]? = some x:=⟨_,ax hlu⟩;obtain⟨g2,o2,c2,z0,z3,z1,z2⟩:=hz.m.wc hx2;have ul:(u.p:Int)<(F.length:Int):=by omega
       have d2:decide ((u.p:Int)<(F.length:Int))=true:=aI ul;rw[rO hx2] at hw;have HX:=aa (show u=eM F.length (fun s=>if gh F s=true then (if dO F [121] (dN 15 (dZ F L) s)=true then (dJ F (dL (dN 15 (dZ F L) s)),true) else (dN 15 (dZ F L) s,false)) else (s,false)) (dJ F (eB F 107 (dJ F (eD F s)))) by
         rw[←HV.out]
         exact(LC.gon (iz hL) hBu.p (by show (if _ then _ else _)=_;rw[aB (by rw[hib];decide)])).symm)
     case' inr.inr.inr.inr=>
       have hib:gh F u=false:=by rw[hi,h1,sY hlu];rfl
       rw[h1] at q1;obtain⟨A2,c2,z0,z3⟩:=hz.m.fc;have d2:decide ((u.p:Int)<(F.length:Int))=false:=aP (by omega);have HX:=aa (show u=eM F.length (fun s=>if gh F s=true then (if dO F [121] (dN 15 (dZ F L) s)=true then (dJ F (dL (dN 15 (dZ F L) s)),true) else (dN 15 (dZ F L) s,false)) else (s,false)) (dJ F (eB F 107 (dJ F (eD F s)))) by
         rw[←HV.out]
         exact(LC.gon (iz hL) hBu.p (by show (if _ then _ else _)=_;rw[aB (by rw[hib];decide)])).symm)
     all_goals (
       have HQ:=aa (ac q1 q2);clear hz q1 q2 hi;go_wp2_with fail
       go_quiet (first
         | (go_at_call 37;with_reducible exact HQ.out.1 _)
         | (go_at_call 37;with_reducible exact HQ.out.2 _)
         | fail)
       have UQ:=aa (U0.out.drew nq))
     case true.inr.inr.inl|true.inr.inr.inr.inl|true.inr.inr.inr.inr=>
       go_wp2_with (
         (go_at_call 177;with_reducible refine Ny.go UQ (jC hF (hBu.mono (by omega)) 122 (by decide)) fun w6 H6=>?_))
       first|go_end0|refine bn ?_
       exact⟨rfl,by rw[HT.out,←HX.out];exact H6.out⟩
     case' true.inl=>
       have hgi:=oS hL hib;have hB8:=hBu.gd hgi.1;have hq8:q≤(dN 15 (dZ F L) u).p:=aA hqu hgi.1.p;have hpl:=hgi.2;have hbp:=hB8.p;have hBi:=hBu.inn 15;have hgt:=fW (F:=F) (cs:=[40]) (by decide) hBi.p;have hBt:=hBi.gd hgt;have hgw:=gP (F:=F) hBt.p;have hBw:=hBt.gd hgw;have hqw:q≤(eD F (eA F [40] (fC 15 u))).p:=aA hqu (aA hgt.p hgw.p);have HGI:=aa (td hL hBi.p);have hi5:(fC 15 u).p≤100000:=by show u.p≤_;omega
       have HK:=aa (show eA F [40] (fC 15 u)=dL (fC 15 u) from ml h1);have h1i:dO F [40] (fC 15 u)=true:=h1
       go_wp2_with (first
         | (go_at_call 211;with_reducible refine Ny.go (Ny.cast A2 HK.out) (rD hF (hBt.mono (by omega))) fun a3 A3=>?_)
         | (go_at_call 37;with_reducible refine Ny.inc A1 (hi5) (fe true hF hBi.p [40] (by decide) h1i) fun a2 ga2 da2 ka2 va2 A2=>?_)
         | (go_at_call 36;with_reducible refine Ny.go UQ (lp hF 15 (by decide) (hBu.mono (by omega))) fun a1 A1=>?_)
         | fail)
     case' true.inr.inl=>
       have hgi:=oS hL hib;have hB8:=hBu.gd hgi.1;have hq8:q≤(dN 15 (dZ F L) u).p:=aA hqu hgi.1.p;have hpl:=hgi.2;have hbp:=hB8.p;have hBi:=hBu.inn 15;have hgt:=fW (F:=F) (cs:=[40]) (by decide) hBi.p;have hBt:=hBi.gd hgt;have hgw:=gP (F:=F) hBt.p;have hBw:=hBt.gd hgw;have hqw:q≤(eD F (eA F [40] (fC 15 u))).p:=aA hqu (aA hgt.p hgw.p);have HGI:=aa (td hL hBi.p);have hi5:(fC 15 u).p≤100000:=by show u.p≤_;omega
       have HK:=aa (show eA F [40] (fC 15 u)=fC 15 u from pJ h1);have h1i:dO F [40] (fC 15 u)=false:=h1
       go_wp2_with (first
         | (go_at_call 211;with_reducible refine Ny.go (Ny.cast A2 HK.out) (rD hF (hBt.mono (by omega))) fun a3 A3=>?_)
         | (go_at_call 37;with_reducible refine Ny.go A1 (fe false hF hBi.p [40] (by decide) h1i) fun a2 A2=>?_)
         | (go_at_call 36;with_reducible refine Ny.go UQ (lp hF 15 (by decide) (hBu.mono (by omega))) fun a1 A1=>?_)
         | fail)
     all_goals (
       rename_i wro;go_loopw [] (fun wr=>∃z:Ps,q≤z.p∧Bd F 7 z∧eM F.length (fun s=>if dO F [124] s=true then (eD F (dL s),true) else (s,false)) z=eM F.length (fun s=>if dO F [124] s=true then (eD F (dL s),true) else (s,false)) (eD F (eA F [40] (fC 15 u)))∧Ny g fv F W z wr) (fun wr=>F.length-pOn g wr)
       case atStart=>exact⟨_,hqw,hBw,rfl,A3.out⟩
       case round=>
         obtain⟨z,hqz,hBz,hlz,hz⟩:=hrel;have Z0:=aa hz;have HZ:=aa hlz;have ZP:=aa hz.m.pOn;have hzp:=hBz.p;clear hz hlz
         cases hc:dO F [124] z
         ·have HE:=aa (HZ.out.symm.trans (LC.gon my hBz.p (t:=z) (by show (if _ then _ else _)=_;rw[aB (by rw[hc];decide)])));have hg5:=fA (F:=F) (c:=41) (by decide) hBz.p;have hB5:=hBz.gd hg5;have hg6:=dW (F:=F) hB5.p;have hB6:=hB5.gd hg6;have hq6:q≤(dJ F (eB F 41 z)).p:=aA hqz (aA hg5.p hg6.p)
          cases hd:fM F (dJ F (eB F 41 z))
          case' false=>
            have HF:=aa (show dZ F L (fC 15 u)=dJ F (eB F 41 z) by unfold dZ;rw[HE.out];simp only[hd,bu,aK])
          case' true=>
            have HF:=aa (show dZ F L (fC 15 u)=dN 2 L (dJ F (eB F 41 z)) by unfold dZ;rw[HE.out];simp only[hd,bN])
          all_goals (
            cases hy:dO F [121] (dN 15 (dZ F L) u)
            case' true=>
              have hltv:=dX hy (by decide);have hn8:=hB8.next hltv (by omega);have hg9:=dW (F:=F) hn8.p;have hB9:=hn8.gd hg9;have hq9:q≤(dJ F (dL (dN 15 (dZ F L) u))).p:=aA hq8 (aA (bM _) hg9.p)
            all_goals (
              go_wp2_with (first
                | (go_at_call 67;with_reducible refine Ny.go N8a (gC hF hn8.p) fun m7 N9=>?_)
                | (go_at_call 37;with_reducible refine Ny.go N8 (fe false hF hB8.p [121] (by decide) hy) fun m6 N8a=>?_)
                | (go_at_call 37;with_reducible refine Ny.inc N8 (by omega) (fe true hF hB8.p [121] (by decide) hy) fun m6 gm6 dm6 km6 vm6 N8a=>?_)
                | (go_at_call 41;with_reducible refine Ny.go (Ny.cast M3 HF.out) (oo hF 15 (dZ F L) (by decide) (hBu.mono (by omega)) HGI.out (by omega)) fun m5 N8=>?_)
                | (go_at_call 41;with_reducible refine Ny.go (Ny.cast M4 HF.out) (oo hF 15 (dZ F L) (by decide) (hBu.mono (by omega)) HGI.out (by omega)) fun m5 N8=>?_)
                | (go_at_call 39;with_reducible refine Ny.go M3 (AQ HL hq6 (hB6.mono (by omega)) hd) fun m4 M4=>?_)
                | (go_at_call 38;with_reducible refine Ny.go M2 (ni hF _ hB6.p hd) fun m3 M3=>?_)
                | (go_at_call 67;with_reducible refine Ny.go M1 (gC hF hB5.p) fun m2 M2=>?_)
                | (go_at_call 177;with_reducible refine Ny.go Z1 (jC hF (hBz.mono (by omega)) 41 (by decide)) fun m1 M1=>?_)
                | (go_at_call 37;with_reducible refine Ny.go Z0 (fe false hF hBz.p [124] (by decide) hc) fun m0 Z1=>?_)
                | fail))
            ·have hX:eM F.length (fun s=>if gh F s=true then (if dO F [121] (dN 15 (dZ F L) s)=true then (dJ F (dL (dN 15 (dZ F L) s)),true) else (dN 15 (dZ F L) s,false)) else (s,false)) (dJ F (dL (dN 15 (dZ F L) u)))=eM F.length (fun s=>if gh F s=true then (if dO F [121] (dN 15 (dZ F L) s)=true then (dJ F (dL (dN 15 (dZ F L) s)),true) else (dN 15 (dZ F L) s,false)) else (s,false)) (dJ F (eB F 107 (dJ F (eD F s)))):=by
               rw[←HV.out]
               exact(LC.goy (iz hL) hBu.p (by show (if _ then (if _ then _ else _) else _)=_;rw[aC hib,aC hy])).symm
             refine⟨⟨_,true,rfl,hq9,hB9.mono (by omega),by rw[aC rfl];exact hX,N9.out⟩,?_⟩;rw[N9.out.m.pOn,HP.out];have h1:=hg9.p;have h2:(dL (dN 15 (dZ F L) u)).p=(dN 15 (dZ F L) u).p+1:=rfl
             have:=hB9.p
             omega
            ·have hX:dN 15 (dZ F L) u=eM F.length (fun s=>if gh F s=true then (if dO F [121] (dN 15 (dZ F L) s)=true then (dJ F (dL (dN 15 (dZ F L) s)),true) else (dN 15 (dZ F L) s,false)) else (s,false)) (dJ F (eB F 107 (dJ F (eD F s)))):=by
               rw[←HV.out]
               exact(LC.gon (iz hL) hBu.p (by show (if _ then (if _ then _ else _) else _)=_;rw[aC hib,aB (by rw[hy];decide)])).symm
             refine⟨⟨_,false,rfl,hq8,hB8.mono (by omega),by rw[aB (by decide)];exact hX,N8a.out⟩,?_⟩;rw[N8a.out.m.pOn,HP.out]
             have:=hB8.p
             omega)
         ·have hltz:=dX hc (by decide);have hnz:=hBz.next hltz (by omega);have hgz:=gP (F:=F) hnz.p;have hy2:=(my (F:=F) z hBz.p).yy (t:=eD F (dL z)) (by rw[aC hc]);have HE:=aa ((LC.goy my hBz.p (t:=eD F (dL z)) (by show (if _ then _ else _)=_;rw[aC hc])).symm.trans HZ.out)
          go_wp2_with (first
            | (go_at_call 211;with_reducible refine Ny.go K1 (rD hF (hnz.mono (by omega))) fun k2 K2=>?_)
            | (go_at_call 37;with_reducible refine Ny.inc Z0 (by omega) (fe _ hF hBz.p [124] (by decide) hc) fun k1 gk1 dk1 kk1 vk1 K1=>?_)
            | fail)
          refine⟨⟨_,aA hqz (bj hy2.2),hBz.gd hy2.1,HE.out,K2.out⟩,?_⟩;rw[K2.out.m.pOn,ZP.out]
          have:=hy2.2
          have:=hy2.1.N
          omega)
end
end
end Go.Proofs.YtcagfamdoaoimaaGreatDoor
