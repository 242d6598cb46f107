/- The reference's parser: a call of a method in a walk; what the small methods tell. -/
import Derived.Test.YtcagfamdoaoimaaGreatDoorNf13
set_option linter.unusedVariables false
set_option linter.unusedSimpArgs false
set_option maxRecDepth 100000
set_option maxHeartbeats 8000000
namespace Go.Proofs.YtcagfamdoaoimaaGreatDoor
section
open Go.RowKit
theorem Ny.go {g:Nat} {fv:Value} {F:List Lf} {s t:Ps} {W W1:World} {f:FuncId} {av:Array Value} {r:Value} {Q:Ending→World→Prop} (U:Hid (Ny g fv F W s W1))
    (c:Nk g fv F s W1→Calls Tryz.prog f av W1 fun e w'=>e=.returned r∧Ny g fv F W1 t w') (k:∀w',Hid (Ny g fv F W t w')→Q (.returned r) w'):Calls Tryz.prog f av W1 Q:=
  (c U.out.m).mono (by rintro e w' ⟨rfl,hz⟩;exact k _ (aa (U.out.then hz)))
theorem Ny.inc {g:Nat} {fv:Value} {F:List Lf} {s t:Ps} {W W1:World} {f:FuncId} {av:Array Value} {r:Value} {Q:Ending→World→Prop} (U:Hid (Ny g fv F W s W1)) (ht:t.p≤100000)
    (c:Nk g fv F s W1→Calls Tryz.prog f av W1 fun e w'=>e=.returned r∧Ny g fv F W1 t w') (k:∀w',g<w'.heap.size→w'.cell? ⟨g,3,none⟩=some (.int .i64 (t.p:Int))→w'.frozen? ⟨g,3,none⟩=false→IntKind.i64.wrap ((t.p:Int)+1)=(t.p:Int)+1 →
      Hid (Ny g fv F W (dM t) (w'.setCell ⟨g,3,none⟩ (.int .i64 ((t.p:Int)+1))))→Q (.returned r) w'):Calls Tryz.prog f av W1 Q:=
  (c U.out.m).mono (by
    rintro e w' ⟨rfl,hz⟩;obtain⟨⟨_,_,d3,_,_⟩,_,e3,_,_⟩:=hz.m.cells;exact k _ hz.m.lt d3 e3 (aS _ (by omega)) (aa ((U.out.then hz).setP (t.p+1))))
theorem ju (F:List Lf) (c:UInt8) (s:Ps):dQ F [c] s=(sg F s.p==c):=by
  unfold dQ;rw[List.contains_cons];simp
section
variable {g:Nat} {fv:Value} {F:List Lf} {s:Ps} {W:World} (b:Bool) (hF:FB F)
include hF
theorem fe (hs:s.p≤F.length) (cs:List UInt8) (hcs:(cs.contains 0||decide (1000<cs.length))=false) (hb:dQ F cs s=b) (h:Nk g fv F s W) :
    Calls Tryz.prog 37 #[.pointer (some ⟨g,0,none⟩),.string ⟨cs.toArray⟩] W fun e w'=>e=.returned (.bool b)∧Ny g fv F W s w':=by
  rw[Bool.or_eq_false_iff] at hcs;rw[←hb]
  exact(FX hF h hs cs hcs.1 (by have:=of_decide_eq_false hcs.2;omega)).mono fun e w' ⟨h1,n,h2⟩=>⟨h1,by rw[h2];exact(Ny.start h).drew n⟩
omit hF in
theorem Nk.drews (h:Nk g fv F s W) (n:Nat):Nk g fv F s (W.drewN n):=((Ny.start h).drew n).m
theorem qw (hs:s.p≤F.length) (cs:List UInt8) (hcs:(cs.contains 0||decide (1000<cs.length))=false) (h:Nk g fv F s W) (n:Nat) :
    Calls Tryz.prog 37 #[.pointer (some ⟨g,0,none⟩),.string ⟨cs.toArray⟩] (W.drewN n) fun e w'=>e=.returned (.bool (dQ F cs s))∧∃m,w'=W.drewN m:=by
  rw[Bool.or_eq_false_iff] at hcs
  exact(FX hF (h.drews n) hs cs hcs.1 (by have:=of_decide_eq_false hcs.2;omega)).mono fun e w' ⟨h1,k,h2⟩=>⟨h1,n+k,by rw[h2,World.drewN_drewN]⟩
theorem EQ (hs:s.p≤F.length) (h:Nk g fv F s W) :
    NB 110 #[.pointer (some ⟨g,0,none⟩)] W (.bool (eK F s)):=by
  have hn:=hF.n;obtain⟨⟨c0,c1,c3,c4,c5⟩,_⟩:=h.cells;have hsl:=pT F;have v1:IntKind.i64.wrap ((s.p:Int)+1)=((s.p+1:Nat):Int):=by rw[aS _ (by omega)];omega
  have hr:eK F s=(dQ F [60] s||dQ F [35] s&&sg F (s.p+1)==60):=by unfold eK;rw[ju,ju]
  have q1:=qw hF hs [60] (by decide) h;have q2:=qw hF hs [35] (by decide) h;rw[hr];have hlt:dQ F [35] s=true→s.p<F.length:=fun h=>eh h (by decide)
  have hT:∀i,i<F.length→(tA F)[i]? = some (sg F i):=fun i hi=>wy hi
  have hnil:¬s.p+1<F.length→sg F (s.p+1)=0:=fun h=>by unfold sg;rw[bY (by omega)]
  generalize dQ F [60] s=b1 at *;generalize dQ F [35] s=b2 at *;obtain⟨T,hTe⟩:∃T,T=tA F:=⟨_,rfl⟩;rw[←hTe] at c1 hsl hT;obtain⟨i,hi⟩:∃i,i=s.p+1:=⟨_,rfl⟩;rw[←hi] at v1 hnil ⊢;have HQ:=aa (ac q1 q2);clear q1 q2 hr hTe h c0 c4 c5
  cases b1
  case' true=>
    clear hT hnil hlt hi
  case' false=>
    cases b2
    case' false=>
      clear hT hnil hlt hi
    case' true=>
      have u1:=hlt rfl;have u0:(0:Int)≤(i:Int):=by omega
      by_cases hi2:i<F.length
      case' pos=>
        have k1:=hT i hi2;obtain⟨c,hc⟩:∃c,c=sg F i:=⟨_,rfl⟩;rw[←hc] at k1 ⊢;obtain⟨g1,g2⟩:=ay.1 k1;have g3:(ByteArray.mk T.toArray)[i]'(show i<T.length from g1)=c:=g2;have k2:((c.toNat:Int)==60)=(c==60):=i7 c 60;obtain⟨bb,hbb⟩:∃bb,bb=(c==60):=⟨_,rfl⟩;rw[←hbb] at k2 ⊢;have t2:decide ((i:Int)<(T.length:Int))=true:=aG (by omega);have t3:decide (i<T.length)=true:=aG g1;clear hT hnil hlt hi k1 g2 hc hbb
      case' neg=>
        rw[hnil hi2];have t2:decide ((i:Int)<(T.length:Int))=false:=aL (by omega);have t3:decide (i<T.length)=false:=aL (by omega);clear hT hnil hlt hi
  all_goals (
    go_enter Tryz.func110,Tryz.ntmps110;go_wp2
    go_quiet (first
      | (go_at_call 37;with_reducible exact HQ.out.1 _)
      | (go_at_call 37;with_reducible exact HQ.out.2 _))
    go_wp2;go_ret;exact⟨rfl,_,rfl⟩)
end
theorem Nk.fc {g:Nat} {fv:Value} {F:List Lf} {s:Ps} {W:World} (h:Nk g fv F s W):∃A c,W.cell? ⟨g,0,none⟩=some (.slice A F.length c)∧W.cell? ⟨g,3,none⟩=some (.int .i64 (s.p:Int)):=by
  obtain⟨⟨c0,_,c3,_,_⟩,_⟩:=h.cells;obtain⟨A,c,rfl⟩:=h.f.formm;exact⟨A,c,c0,c3⟩
theorem Nk.wc {g:Nat} {fv:Value} {F:List Lf} {s:Ps} {W:World} (h:Nk g fv F s W) {x:Lf} (hx:F[s.p]? = some x):∃g1 o1 c,W.cell? ⟨g,0,none⟩=some (.slice (some ⟨g1,o1,none⟩) F.length c)∧W.cell? ⟨g,3,none⟩=some (.int .i64 (s.p:Int)) ∧
    W.cell? ⟨g1,o1+s.p*4,none⟩=some (.int .i64 x.kd)∧W.cell? ⟨g1,o1+s.p*4+1,none⟩=some (.string ⟨x.tx.toArray⟩):=by
  obtain⟨⟨c0,_,c3,_,_⟩,_⟩:=h.cells;obtain⟨A,c,rfl⟩:=h.f.formm;obtain⟨g1,o1,rfl,y0,y1,_,_⟩:=jl h.f hx rfl;exact⟨g1,o1,c,c0,c3,y0,y1⟩
section
variable {g:Nat} {fv:Value} {F:List Lf} {s:Ps} {W:World} (hF:FB F)
include hF
theorem nE (b:Bool) (hs:s.p≤F.length) (hb:eK F s=b) (h:Nk g fv F s W) :
    vY 110 g fv F W (.bool b) s:=by
  rw[←hb]
  exact(EQ hF hs h).mono fun e w' ⟨h1,n,h2⟩=>⟨h1,by rw[h2];exact(Ny.start h).drew n⟩
theorem xi (b:Bool) (hs:s.p≤F.length) (hb:gu F s=b) (h:Nk g fv F s W) :
    vY 111 g fv F W (.bool b) s:=by
  rw[←hb];unfold gu;have H0:=aa (Ny.start h);clear h hb;obtain⟨d,hd⟩:∃d,d=decide (s.deep<200):=⟨_,rfl⟩;have hd2:decide ((s.deep:Int)<200)=d:=by rw[hd];exact decide_eq_decide.2 (by omega)
  obtain⟨z,hz⟩:∃z:Int,z=(s.deep:Int):=⟨_,rfl⟩;rw[←hz] at hd2;rw[←hd]
  cases ha:dQ F [123,40,105,119,114,99] s;all_goals (
    have HA:=aa (ac ha hz);clear ha hd hz;go_enter Tryz.func111,Tryz.ntmps111;go_wp2_with (
      (go_at_call 37;with_reducible refine Ny.go H0 (fe _ hF hs [123,40,105,119,114,99] (by decide) HA.out.1) fun w1 H1=>?_
       obtain⟨⟨_,_,_,_,d5⟩,_⟩:=H1.out.m.cells;rw[←HA.out.2] at d5))
    go_ret;exact⟨by simp[Bool.and_comm],H1.out⟩)
theorem CE (b:Bool) (hs:s.p≤F.length) (hb:ng F s=b) (h:Nk g fv F s W) :
    vY 65 g fv F W (.bool b) s:=by
  rw[←hb];unfold ng;rw[←ju];have H0:=aa (Ny.start h);clear h hb
  cases ha:dQ F [120] s
  case' false=>
    cases hr:eK F s
    case' false=>cases hc:gu F s
  all_goals (
    go_enter Tryz.func65,Tryz.ntmps65
    go_wp2_with (first
      | (go_at_call 37;with_reducible refine Ny.go H0 (fe _ hF hs [120] (by decide) ha) fun w1 H1=>?_)
      | (go_at_call 110;with_reducible refine Ny.go H1 (nE hF _ hs hr) fun w2 H2=>?_)
      | (go_at_call 111;with_reducible refine Ny.go H2 (xi hF _ hs hc) fun w3 H3=>?_)
      | fail)
    go_ret;exact⟨rfl,by first|exact H3.out|exact H2.out|exact H1.out⟩)
theorem mN (b:Bool) (hs:s.p≤F.length) (hb:fq F s=b) (h:Nk g fv F s W) :
    vY 38 g fv F W (.bool b) s:=by
  rw[←hb];unfold fq;rw[←ju];have H0:=aa (Ny.start h);clear h hb
  cases ha:dQ F [33] s
  case' false=>cases hr:ng F s
  all_goals (
    go_enter Tryz.func38,Tryz.ntmps38
    go_wp2_with (first
      | (go_at_call 37;with_reducible refine Ny.go H0 (fe _ hF hs [33] (by decide) ha) fun w1 H1=>?_)
      | (go_at_call 65;with_reducible refine Ny.go H1 (CE hF _ hs hr) fun w2 H2=>?_)
      | fail)
    go_ret;exact⟨rfl,by first|exact H2.out|exact H1.out⟩)
theorem nM (hB:Bd F 100 s) (h:Nk g fv F s W):vY 113 g fv F W (.tuple #[]) (eS s):=Lz hF h hB
theorem qo {k:Nat} (hk:(decide (1≤k)&&decide (k≤17) && !gL k)=true) (hB:Bd F 100 s) (hs:s.p<F.length) (h:Nk g fv F s W) :
    Calls Tryz.prog 40 #[.pointer (some ⟨g,0,none⟩),.int .i64 (k:Int)] W fun e w'=>e=.returned (.tuple #[])∧Ny g fv F W (ez k s) w':=by
  simp only[aT,bW,Bool.not_eq_true'] at hk;exact M9 k hk.1 hk.2 hF h hB hs
theorem jB (hB:Bd F 100 s) (c:UInt8) (hc:c≠0) (h:Nk g fv F s W) :
    Calls Tryz.prog 177 #[.pointer (some ⟨g,0,none⟩),.string ⟨#[c]⟩] W fun e w'=>e=.returned (.tuple #[])∧Ny g fv F W (eF F c s) w':=by
  have hn:=hF.n;have hp:=hB.p;have hc0:([c].contains 0||decide (1000<[c].length))=false:=by simp;exact fun e=>hc e.symm
  have H0:=aa (Ny.start h);clear h;unfold eF
  cases hb:dQ F [c] s
  case' false=>
    rw[aB (by decide)]
  case' true=>
    rw[aD rfl]
  all_goals (
    go_enter Tryz.func177,Tryz.ntmps177)
  case false=>
    go_wp2_with (first
      | (go_at_call 37;with_reducible refine Ny.go H0 (fe _ hF hp [c] hc0 hb) fun w1 H1=>?_)
      | (go_at_call 113;with_reducible refine Ny.go H1 (nM hF hB) fun w2 H2=>?_)
      | fail)
    first|go_end0|refine bn ?_
    exact⟨rfl,H2.out⟩
  case true=>
    go_wp2_with (
      (go_at_call 37;with_reducible refine Ny.inc H0 (by omega) (fe _ hF hp [c] hc0 hb) fun w1 hg1 d1 e1 v1 H1=>?_))
    first|go_end0|refine bn ?_
    exact⟨rfl,H1.out⟩
theorem qZ (hB:Bd F 100 s) (h:Nk g fv F s W) :
    vY 211 g fv F W (.tuple #[]) (eE F s):=by
  have hn:=hF.n;have hp:=hB.p;have u2:(0:Int)≤(s.p:Int):=by omega
  have H0:=aa (Ny.start h);by_cases hlt:s.p<F.length
  case' pos=>
    obtain⟨x,hx⟩:∃x,F[s.p]? = some x:=⟨_,ax hlt⟩;obtain⟨g1,o1,c,y0,y3,y1,_⟩:=h.wc hx;have hw:iM F s.p=(x.kd==6):=by unfold iM;rw[hx]
    have u1:(s.p:Int)<(F.length:Int):=by omega
    have d1:decide ((s.p:Int)<(F.length:Int))=true:=aG u1;clear h hx
    cases hk:(x.kd==6)
    case' true=>
      have e:eE F s=ez 7 s:=by unfold eE;rw[hw,hk];rfl
    case' false=>
      have e:eE F s=eS s:=by unfold eE;rw[hw,hk];rfl
  case' neg=>
    obtain⟨A,c,y0,y3⟩:=h.fc;have d1:decide ((s.p:Int)<(F.length:Int))=false:=aL (by omega);have e:eE F s=eS s:=by unfold eE iM;rw[bY (by omega)];rfl
    clear h
  all_goals (
    rw[e];clear e;go_enter Tryz.func211,Tryz.ntmps211;go_wp2;go_quiet (fail);have H1:=aa (H0.out.drew nq)
    go_wp2_with (first
      | (go_at_call 40;with_reducible refine Ny.go H1 (qo hF (k:=7) (by decide) hB hlt) fun w2 H2=>?_)
      | (go_at_call 113;with_reducible refine Ny.go H1 (nM hF hB) fun w2 H2=>?_)
      | fail)
    first|go_end0|refine bn ?_
    exact⟨rfl,H2.out⟩)
def pOn (g:Nat) (w:World):Nat:=match w.cell? ⟨g,3,none⟩ with|some (.int _ p)=>p.toNat|_=>0
omit hF in
theorem Nk.pOn (h:Nk g fv F s W):Go.Proofs.YtcagfamdoaoimaaGreatDoor.pOn g W=s.p:=by
  unfold Go.Proofs.YtcagfamdoaoimaaGreatDoor.pOn;rw[h.cells.1.2.2.1];exact Int.toNat_natCast _
def KB (F:List Lf) (s:Ps):Nat:=(dK F s).p-s.p
omit hF in
theorem Kz (hs:s.p≤F.length) (h:dQ F [110] s=true):((KB F s:Int)==0)=false:=by
  have h1:=eh h (by decide);have h2:=LC.eq (kV (F:=F)) s hs;simp only[h,bQ] at h2;have h3:=(dY (F:=F) (s:=dM s) h1).p;have h4:dK F s=dK F (dM s):=h2;refine aJ ?_;unfold KB;rw[h4]
  have:s.p+1≤(dK F (dM s)).p:=h3
  omega
omit hF in
theorem KA (hs:s.p≤F.length) (h:dQ F [110] s=false):((KB F s:Int)==0)=true∧dK F s=s:=by
  have h2:=LC.eq (kV (F:=F)) s hs;simp only[h,bp,aI] at h2;have h4:dK F s=s:=h2;refine⟨?_,h4⟩;unfold KB;rw[h4,Nat.sub_self];rfl
theorem gx (hs:s.p≤F.length) (h:Nk g fv F s W) :
    vY 67 g fv F W (.int .i64 (KB F s:Int)) (dK F s):=by
  have hn:=hF.n;have H0:=aa (Ny.start h);have hm:(KB F s:Int)=((dK F s).p:Int)-(s.p:Int):=by
    have:=(dY (F:=F) hs).p
    unfold KB;omega
  have HM:=aa hm;clear h hm;go_enter Tryz.func67,Tryz.ntmps67;go_wp2_with fail;go_loopw [3] (fun n wr=>∃u:Ps,u.p≤F.length∧s.p≤u.p∧n=.int .i64 ((u.p-s.p:Nat):Int)∧dK F u=dK F s∧Ny g fv F W u wr) (fun n wr=>F.length-pOn g wr)
  case atStart=>exact⟨s,hs,au _,by rw[Nat.sub_self];rfl,rfl,H0.out⟩
  case round=>
    obtain⟨u,hu,hsu,rfl,hlu,hz⟩:=hrel;have U0:=aa hz;have HU:=aa (ac hlu hz.m.pOn);clear hlu hz;obtain⟨k,hk⟩:∃k,k=u.p-s.p:=⟨_,rfl⟩;rw[←hk];have hk9:k≤900:=by omega
    have HK:=aa hk;clear hk;have hl:=LC.eq (kV (F:=F)) u hu
    cases hb:dQ F [110] u
    ·simp only[hb,bp,aI] at hl;have HL:=aa hl;clear hl;go_wp2_with (
       (go_at_call 37;with_reducible refine Ny.go U0 (fe _ hF hu [110] (by decide) hb) fun w1 H1=>?_))
     go_ret;have e:dK F s=u:=HU.out.1.symm.trans HL.out;have h9:(KB F s:Int)=(k:Int):=by
       rw[HM.out,e]
       have:=HK.out
       omega
     exact⟨by rw[h9];rfl,by rw[e];exact H1.out⟩
    ·simp only[hb,bQ] at hl;have HL:=aa hl;clear hl;have hlt:=eh hb (by decide);go_wp2_with (
       (go_at_call 37;with_reducible refine Ny.inc U0 (by omega) (fe _ hF hu [110] (by decide) hb) fun w1 hg1 d1 e1 v1 H1=>?_))
     refine⟨⟨dM u,hlt,by show s.p≤u.p+1;omega,by show _=Value.int .i64 (((u.p+1)-s.p:Nat):Int);rw[show u.p+1-s.p=k+1 by rw[HK.out];omega];rfl,by rw[←HU.out.1];exact HL.out.symm,H1.out⟩,?_⟩;rw[H1.out.m.pOn,HU.out.2];show F.length-(u.p+1)<F.length-u.p;omega
end
theorem Ny.nxt {g:Nat} {fv:Value} {F:List Lf} {s:Ps} {W W1:World} (U:Hid (Ny g fv F W s W1)) (z:Int) (hz:z=(s.p:Int)+1):Hid (Ny g fv F W (dM s) (W1.setCell ⟨g,3,none⟩ (.int .i64 z))):=by
  subst hz;exact U.out.setP (s.p+1)
theorem Ny.inc3 {g:Nat} {fv:Value} {F:List Lf} {s:Ps} {W W1:World} (U:Hid (Ny g fv F W s W1)):g<W1.heap.size∧W1.cell? ⟨g,3,none⟩=some (.int .i64 (s.p:Int))∧W1.frozen? ⟨g,3,none⟩=false:=by
  obtain⟨⟨_,_,d3,_,_⟩,_,e3,_,_⟩:=U.out.m.cells;exact⟨U.out.m.lt,d3,e3⟩
theorem Ny.cast {g:Nat} {fv:Value} {F:List Lf} {s t:Ps} {W W1:World} (U:Hid (Ny g fv F W s W1)) (e:t=s):Hid (Ny g fv F W t W1):=by rw[e];exact U
theorem Ct (k:Nat) (s:Ps):(fC k s).l.length=s.l.length+1:=by show (s.l++[_]).length=_;simp
section
variable {g:Nat} {fv:Value} {F:List Lf} {s:Ps} {W:World} (hF:FB F)
include hF
theorem lh (k:Nat) (hk:(decide (k≤18) && !gL k)=true) (hB:Bd F 100 s) (h:Nk g fv F s W) :
    Calls Tryz.prog 36 #[.pointer (some ⟨g,0,none⟩),.int .i64 (k:Int)] W fun e w'=>e=.returned (.int .i64 s.up)∧Ny g fv F W (fC k s) w':=by
  simp only[aT,bW,Bool.not_eq_true'] at hk;exact xq k hk.2 h (hB.l5 hF (by omega)) hk.1 (by have:=hB.d;omega)
theorem nW (k:Nat) (f:Ps→Ps) (hk:gL k=false) (hB:Bd F 100 s) {B:Nat} (hG:Gd F.length B (fC k s) (f (fC k s))) (hb:B≤1000) (h:Nk g fv F (f (fC k s)) W) :
    Calls Tryz.prog 41 #[.pointer (some ⟨g,0,none⟩),.int .i64 s.up] W fun e w'=>e=.returned (.tuple #[])∧Ny g fv F W (dO k f s) w':=by
  have h1:=hG.b;rw[Ct] at h1
  have:=hB.l5 hF (by omega)
  have:=hG.N
  have:=hF.n
  exact GR k f hk hG h (by omega) (by have:=hB.d;omega)
theorem zN (k:Nat) (hk:(decide (k≤18)&&gL k)=true) (hB:Bd F 100 s) (h:Nk g fv F s W) :
    Calls Tryz.prog 36 #[.pointer (some ⟨g,0,none⟩),.int .i64 (k:Int)] W fun e w'=>e=.returned (.int .i64 s.up)∧Ny g fv F W (fC k {s with deep:=s.deep+1}) w':=by
  simp only[aT,bW] at hk;exact Kf k hk.2 h (hB.l5 hF (by omega)) hk.1 (by have:=hB.d;omega)
theorem GM (k:Nat) (f:Ps→Ps) (hk:gL k=true) (hB:Bd F 100 s) {B:Nat} (hG:Gd F.length B (fC k {s with deep:=s.deep+1}) (f (fC k {s with deep:=s.deep+1}))) (hb:B≤1000) (h:Nk g fv F (f (fC k {s with deep:=s.deep+1})) W) :
    Calls Tryz.prog 41 #[.pointer (some ⟨g,0,none⟩),.int .i64 s.up] W fun e w'=>e=.returned (.tuple #[])∧Ny g fv F W (kJ k f s) w':=by
  have h1:=hG.b;rw[Ct] at h1;have h2:({s with deep:=s.deep+1}:Ps).l.length=s.l.length:=rfl
  have:=hB.l5 hF (by omega)
  have:=hG.N
  have:=hF.n
  exact Nr k f hk hG h (by omega) (by have:=hB.d;omega)
theorem tE (hB:Bd F 99 s) (hb:eK F s=true) (h:Nk g fv F s W) :
    vY 178 g fv F W (.tuple #[]) (fI F s):=by
  have hn:=hF.n;have hp:=hB.p;have hi:=hB.inn 8;have hi5:(fC 8 s).p≤100000:=by show s.p≤_;omega
  have hw1:=gr (F:=F) (cs:=[35]) (by decide) hi.p;have hw2:=gr (F:=F) (cs:=[60]) (by decide) hw1.N;have hw3:=ie (F:=F) hw2.N;have hG:=(hw1.trans hw2).trans hw3;have H0:=aa (Ny.start h);clear h
  cases ha:dQ F [35] (fC 8 s)
  ·have e1:eB F [35] (fC 8 s)=fC 8 s:=pg ha;have e2:eB F [60] (fC 8 s)=dM (fC 8 s):=lU (by
     rw[ju] at ha ⊢;have h0:sg F (fC 8 s).p=sg F s.p:=rfl;rw[h0] at ha ⊢;unfold eK at hb;rw[ha,dF,Bool.or_false] at hb;exact hb)
   obtain⟨f,hf⟩:∃f:Ps→Ps,f=fun s=>eE F (eB F [60] (eB F [35] s)):=⟨_,rfl⟩
   have hx:fI F s=dO 8 f s:=by rw[hf];rfl
   have hB2:Bd F 100 (dM (fC 8 s)):=⟨by show s.p+1≤_;exact tF hb,by have:=hi.l;show _≤46*(s.p+1)+100;have:(dM (fC 8 s)).l.length=(fC 8 s).l.length:=rfl;have:(fC 8 s).p=s.p:=rfl;omega,hB.d⟩;rw[e1,e2] at hG;rw[hx];have HE:=aa (show f (fC 8 s)=eE F (dM (fC 8 s)) by rw[hf];simp only;rw[e1,e2]);have HG:=aa (show Gd F.length _ (fC 8 s) (f (fC 8 s)) by rw[HE.out];exact hG);clear hw1 hw2 hw3 e1 e2 hx hG hf;go_enter Tryz.func178,Tryz.ntmps178
   go_wp2_with (first
     | (go_at_call 36;with_reducible refine Ny.go H0 (lh hF 8 (by decide) (hB.mono (by omega))) fun w1 H1=>?_)
     | (go_at_call 37;with_reducible refine Ny.inc H1 hi5 (fe _ hF hi.p [35] (by decide) ha) fun w2 hg2 d2 k2 v2 H2=>?_)
     | (go_at_call 211;with_reducible refine Ny.go H2 (qZ hF hB2) fun w3 H3=>?_)
     | (go_at_call 41;with_reducible refine Ny.go (Ny.cast H3 HE.out) (nW hF 8 f (by decide) (hB.mono (by omega)) HG.out (by omega)) fun w4 H4=>?_)
     | fail)
   first|go_end0|refine bn ?_
   exact⟨rfl,H4.out⟩
  ·have hlt:s.p<F.length:=tF hb;have e1:eB F [35] (fC 8 s)=dM (fC 8 s):=lU ha;have h60:sg F (s.p+1)=60:=by
     rw[ju] at ha;have h0:sg F (fC 8 s).p=sg F s.p:=rfl;rw[h0] at ha;unfold eK at hb;rw[ha,cK] at hb;have h1:sg F s.p=35:=by simpa using ha
     rw[h1] at hb;simpa using hb
   have hlt2:s.p+1<F.length:=tB (by rw[h60];decide);have e2:eB F [60] (dM (fC 8 s))=dM (dM (fC 8 s)):=lU (by rw[ju];show (sg F (s.p+1)==60)=true;rw[h60];rfl);obtain⟨f,hf⟩:∃f:Ps→Ps,f=fun s=>eE F (eB F [60] (eB F [35] s)):=⟨_,rfl⟩
   have hx:fI F s=dO 8 f s:=by rw[hf];rfl
   have hB2:Bd F 100 (dM (dM (fC 8 s))):=⟨by show s.p+1+1≤_;omega,by have:=hi.l;show _≤46*(s.p+1+1)+100;have:(dM (dM (fC 8 s))).l.length=(fC 8 s).l.length:=rfl;have:(fC 8 s).p=s.p:=rfl;omega,hB.d⟩;rw[e1,e2] at hG;rw[hx];have HE:=aa (show f (fC 8 s)=eE F (dM (dM (fC 8 s))) by rw[hf];simp only;rw[e1,e2]);have v3:IntKind.i64.wrap ((s.p:Int)+1+1)=(s.p:Int)+1+1:=aS _ (by omega);have HG:=aa (show Gd F.length _ (fC 8 s) (f (fC 8 s)) by rw[HE.out];exact hG);clear hw1 hw2 hw3 e1 e2 hx hG hf;go_enter Tryz.func178,Tryz.ntmps178
   go_wp2_with (first
     | (go_at_call 36;with_reducible refine Ny.go H0 (lh hF 8 (by decide) (hB.mono (by omega))) fun w1 H1=>?_)
     | (go_at_call 37;with_reducible refine Ny.inc H1 hi5 (fe _ hF hi.p [35] (by decide) ha) fun w2 hg2 d2 k2 v2 H2=>?_
        have H2':=Ny.nxt H2 ((s.p:Int)+1+1) rfl)
     | (go_at_call 211;with_reducible refine Ny.go H2' (qZ hF hB2) fun w3 H3=>?_)
     | (go_at_call 41;with_reducible refine Ny.go (Ny.cast H3 HE.out) (nW hF 8 f (by decide) (hB.mono (by omega)) HG.out (by omega)) fun w4 H4=>?_)
     | fail)
   first|go_end0|refine bn ?_
   exact⟨rfl,H4.out⟩
end
def sA (g:Nat) (fv:Value) (F:List Lf) (L:Ps→Ps) (q:Nat):Prop:=∀(s:Ps) (W:World),q≤s.p→Bd F 19 s→fq F s=true→Nk g fv F s W →
  vY 39 g fv F W (.tuple #[]) (dO 2 L s)
theorem Bc {g:Nat} {fv:Value} {F:List Lf} {L:Ps→Ps} {q:Nat} {s:Ps} {W:World} (HL:sA g fv F L q) (hq:q≤s.p) (hB:Bd F 19 s) (hb:fq F s=true) (h:Nk g fv F s W) :
    vY 39 g fv F W (.tuple #[]) (dO 2 L s):=HL s W hq hB hb h
section
variable {g:Nat} {fv:Value} {F:List Lf} {L:Ps→Ps} {q:Nat} {s:Ps} {W:World} (hF:FB F) (hL:GL F L) (HL:sA g fv F L q)
include hF HL
theorem nj (hq:q≤s.p) (hB:Bd F 14 s) (h:Nk g fv F s W) :
    vY 207 g fv F W (.tuple #[]) (eM F L s):=by
  have hp:=hB.p;have hg1:=dY (F:=F) hp;have hB1:=hB.gd hg1;have hq1:q≤(dK F s).p:=aA hq hg1.p;have H0:=aa (Ny.start h);clear h;unfold eM
  cases hb:fq F (dK F s)
  case' false=>rw[aB (by decide)]
  case' true=>rw[aD rfl]
  all_goals (
    go_enter Tryz.func207,Tryz.ntmps207
    go_wp2_with (first
      | (go_at_call 67;with_reducible refine Ny.go H0 (gx hF hp) fun w1 H1=>?_)
      | (go_at_call 38;with_reducible refine Ny.go H1 (mN hF _ hB1.p hb) fun w2 H2=>?_)
      | (go_at_call 39;with_reducible refine Ny.go H2 (Bc HL hq1 (hB1.mono (by omega)) hb) fun w3 H3=>?_)
      | (go_at_call 113;with_reducible refine Ny.go H2 (nM hF (hB1.mono (by omega))) fun w3 H3=>?_)
      | fail)
    first|go_end0|refine bn ?_
    exact⟨rfl,H3.out⟩)
include hL
theorem rM (hq:q≤s.p) (hB:Bd F 9 s) (h:Nk g fv F s W) :
    vY 208 g fv F W (.tuple #[]) (xE F L s):=by
  have hg1:=fO (F:=F) (c:=100) (by decide) hB.p;have hB1:=hB.gd hg1;have hq1:=aA hq hg1.p;have hB2:=hB1.gd (fS hL hB1.p);have H0:=aa (Ny.start h);clear h;unfold xE;go_enter Tryz.func208,Tryz.ntmps208
  go_wp2_with (first
    | (go_at_call 177;with_reducible refine Ny.go H2 (jB hF (hB2.mono (by omega)) 103 (by decide)) fun w3 H3=>?_)
    | (go_at_call 207;with_reducible refine Ny.go H1 (nj hF HL hq1 (hB1.mono (by omega))) fun w2 H2=>?_)
    | (go_at_call 177;with_reducible refine Ny.go H0 (jB hF (hB.mono (by omega)) 100 (by decide)) fun w1 H1=>?_)
    | fail)
  first|go_end0|refine bn ?_
  exact⟨rfl,H3.out⟩
end
theorem wS (l:List UInt8) (b:Bool) (hb:i4 l=b) (hl:l.length≤100000) (W:World) (n:Nat):Calls Tryz.prog 158 #[.string ⟨l.toArray⟩] (W.drewN n) fun e w'=>e=.returned (.bool b)∧∃m,w'=W.drewN m:=
  (qJ l _ hl).mono fun e w' ⟨h1,h2⟩=>⟨by rw[h1,Gf,hb],n,h2.symm⟩
theorem LC.yy {N B:Nat} {s t:Ps} {r:Ps×Bool} (h:LC N B s r) (e:r=(t,true)):Gd N 0 s t∧s.p<t.p:=by rw[e] at h;exact h.1 rfl
theorem LC.goy {N B:Nat} {c:Ps→Ps×Bool} {s t:Ps} (h:∀s,s.p≤N→LC N B s (c s)) (hs:s.p≤N) (e:c s=(t,true)):eO N c s=eO N c t:=by
  have h1:=LC.eq h s hs;simp only[e,bQ] at h1;exact h1
theorem LC.gon {N B:Nat} {c:Ps→Ps×Bool} {s t:Ps} (h:∀s,s.p≤N→LC N B s (c s)) (hs:s.p≤N) (e:c s=(t,false)):eO N c s=t:=by
  have h1:=LC.eq h s hs;simp only[e,bp,aI] at h1;exact h1
theorem rE {F:List Lf} {i:Nat} {x:Lf} (hx:F[i]? = some x):iM F i=(x.kd==6):=by unfold iM;rw[hx]
theorem D9 {F:List Lf} {i:Nat} {x:Lf} (hx:F[i]? = some x):tx F i=x.tx:=by unfold tx;rw[hx]
theorem sY {F:List Lf} {i:Nat} (h:¬i<F.length):iM F i=false:=by unfold iM;rw[bY (by omega)]
section
variable {g:Nat} {fv:Value} {F:List Lf} {L:Ps→Ps} {q:Nat} {s:Ps} {W:World} (hF:FB F) (hL:GL F L) (HL:sA g fv F L q)
include hF hL HL
theorem Nn (hq:q≤s.p) (hB:Bd F 0 s) (h:Nk g fv F s W) :
    vY 209 g fv F W (.tuple #[]) (gF F L s):=by
  have hn:=hF.n;have hp:=hB.p;obtain⟨T,hT⟩:∃T,T=gF F L s:=⟨_,rfl⟩;rw[←hT];have H0:=aa (Ny.start h);have us:(0:Int)≤(s.p:Int):=by omega
  have key:∃s1,s1=(if (iM F s.p&&i4 (tx F s.p))=true then ez 7 s else eS s):=⟨_,rfl⟩;obtain⟨s1,hs1⟩:=key;have hg1:Gd F.length 1 s s1:=by rw[hs1];exact Gd.ite (fun hc=>(fW (fR ((aT _ _).mp hc).1)).1) (fun _=>ig hp)
  have hB1:=hB.gd hg1;have hq1:q≤s1.p:=aA hq hg1.p;have hT1:T=xE F L (if dQ F [59] s1=true then dK F (dM s1) else if dQ F [107] (dK F s1)=true then za F (dK F s1) else dK F s1):=by rw[hT,hs1];rfl
  have HG:=aa (ac hg1 hT1);clear hT hT1 hg1;by_cases hlt:s.p<F.length
  case' pos=>
    obtain⟨x,hx⟩:∃x,F[s.p]? = some x:=⟨_,ax hlt⟩;have hxl:=hF.t x (aO hx);rw[rE hx,D9 hx] at hs1;obtain⟨g1,o1,c,y0,y3,y1,y2⟩:=h.wc hx;have u1:(s.p:Int)<(F.length:Int):=by omega
    have d1:decide ((s.p:Int)<(F.length:Int))=true:=aG u1;clear h hx
    cases hk:(x.kd==6)
    case' false=>
      rw[hk] at hs1;replace hs1:s1=eS s:=hs1
    case' true=>
      rw[hk] at hs1
      cases hm:i4 x.tx
      case' false=>
        rw[hm] at hs1;replace hs1:s1=eS s:=hs1;have HN:=aa (wS x.tx false hm (by omega) W)
      case' true=>
        rw[hm] at hs1;replace hs1:s1=ez 7 s:=hs1;have HN:=aa (wS x.tx true hm (by omega) W)
      all_goals clear hm
  case' neg=>
    obtain⟨A,c,y0,y3⟩:=h.fc;have d1:decide ((s.p:Int)<(F.length:Int))=false:=aL (by omega);rw[sY hlt] at hs1;replace hs1:s1=eS s:=hs1;clear h
  all_goals (
    have H1':=aa hs1;clear hs1;go_enter Tryz.func209,Tryz.ntmps209;go_wp2_with fail;go_quiet (
      (go_at_call 158;with_reducible exact HN.out _))
    have HQ:=aa (H0.out.drew nq)
    go_upto_region 3 with (first
      | (go_at_call 40;with_reducible refine Ny.go HQ (qo hF (k:=7) (by decide) (hB.mono (by omega)) hlt) fun w1 H1=>?_)
      | (go_at_call 113;with_reducible refine Ny.go HQ (nM hF (hB.mono (by omega))) fun w1 H1=>?_)
      | fail)
    have H1:=Ny.cast H1 H1'.out;try clear HN
    clear H1' HQ H0 d1 y0 y3
    cases ha:dQ F [59] s1
    ·have hg2:=dY (F:=F) hB1.p;have hB2:=hB1.gd hg2;have hq2:q≤(dK F s1).p:=aA hq1 hg2.p
     cases hk2:dQ F [107] (dK F s1)
     ·have e:T=xE F L (dK F s1):=by rw[HG.out.2,aB (by rw[ha];decide),aB (by rw[hk2];decide)]
      go_wp2_with (first
        | (go_at_call 208;with_reducible refine Ny.go H4 (rM hF hL HL hq2 (hB2.mono (by omega))) fun w5 H5=>?_)
        | (go_at_call 37;with_reducible refine Ny.go H3 (fe _ hF hB2.p [107] (by decide) hk2) fun w4 H4=>?_)
        | (go_at_call 67;with_reducible refine Ny.go H2 (gx hF hB1.p) fun w3 H3=>?_)
        | (go_at_call 37;with_reducible refine Ny.go H1 (fe _ hF hB1.p [59] (by decide) ha) fun w2 H2=>?_)
        | fail)
      first|go_end0|refine bn ?_
      exact⟨rfl,by rw[e];exact H5.out⟩
     ·have hlt4:=eh hk2 (by decide);have hn4:=hB2.next hlt4 (by omega);have hq4:q≤(dM (dK F s1)).p:=aA hq2 (cg _);have HT:=aa (show T=xE F L (za F (dK F s1)) by rw[HG.out.2,aB (by rw[ha];decide),aD hk2])
      go_wp2_with (first
        | (go_at_call 37;with_reducible refine Ny.inc H3 (by omega) (fe _ hF hB2.p [107] (by decide) hk2) fun w4 gw4 dw4 kw4 vw4 H4=>?_)
        | (go_at_call 67;with_reducible refine Ny.go H2 (gx hF hB1.p) fun w3 H3=>?_)
        | (go_at_call 37;with_reducible refine Ny.go H1 (fe _ hF hB1.p [59] (by decide) ha) fun w2 H2=>?_)
        | fail)
      go_loopw [] (fun wr=>∃u:Ps,q≤u.p∧Bd F 0 u∧jA F u=jA F (dM (dK F s1))∧Ny g fv F W u wr) (fun wr=>F.length-pOn g wr)
      case atStart=>exact⟨_,hq4,hn4,rfl,H4.out⟩
      case round=>
        obtain⟨u,hqu,hBu,hlu,hz⟩:=hrel;have U0:=aa hz;have HU:=aa hlu;have HP:=aa hz.m.pOn;have uu:(0:Int)≤(u.p:Int):=by omega
        have hup:=hBu.p;clear hlu;by_cases hlu:u.p<F.length
        case' pos=>
          obtain⟨x2,hx2⟩:∃x,F[u.p]? = some x:=⟨_,ax hlu⟩;have hw:=rE hx2;obtain⟨g2,o2,c2,z0,z3,z1,z2⟩:=hz.m.wc hx2;have ul:(u.p:Int)<(F.length:Int):=by omega
          have d2:decide ((u.p:Int)<(F.length:Int))=true:=aG ul;clear hz hx2
          cases hkd:(x2.kd==6)
          case' true=>
            rw[hkd] at hw;have hy:=(iO (F:=F) u hBu.p).yy (t:=ez 7 u) (by rw[aD hw]);have HE:=aa ((LC.goy iO hBu.p (t:=ez 7 u) (by show (if _ then _ else _)=_;rw[aD hw])).symm.trans HU.out);go_wp2_with fail;go_quiet (fail);have UQ:=aa (U0.out.drew nq);go_wp2_with (
              (go_at_call 40;with_reducible refine Ny.go UQ (qo hF (k:=7) (by decide) (hBu.mono (by omega)) hlu) fun w6 H6=>?_))
            refine⟨⟨_,aA hqu (bq hy.2),hBu.gd hy.1,HE.out,H6.out⟩,?_⟩;rw[H6.out.m.pOn,HP.out]
            have:=hy.2
            have:=hy.1.N
            omega
          case' false=>
            rw[hkd] at hw
        case' neg=>
          have hw:=sY hlu;obtain⟨A2,c2,z0,z3⟩:=hz.m.fc;have d2:decide ((u.p:Int)<(F.length:Int))=false:=aL (by omega);clear hz
        all_goals (
          have HE:=aa (HU.out.symm.trans (LC.gon iO hBu.p (t:=u) (by show (if _ then _ else _)=_;rw[aB (by rw[hw];decide)])));go_wp2_with fail;go_quiet (fail);have UQ:=aa (U0.out.drew nq);clear hw z0 z3 d2
          cases hc:dQ F [59] u
          ·cases hd:dQ F [110] u
           ·obtain⟨hz,hz2⟩:=KA hBu.p hd;have HZ:=aa hz2.symm;clear hz2;have hg7:=ig (F:=F) hBu.p;have hB7:=hBu.gd hg7;have hq7:q≤(eS u).p:=aA hqu hg7.p;have e:T=xE F L (eS u):=by rw[HT.out];unfold za;rw[HE.out];simp only[hc,hd,bp,aI]
            go_wp2_with (first
              | (go_at_call 208;with_reducible refine Ny.go H8 (rM hF hL HL hq7 (hB7.mono (by omega))) fun w9 H9=>?_)
              | (go_at_call 113;with_reducible refine Ny.go (Ny.cast H7 HZ.out) (nM hF (hBu.mono (by omega))) fun w8 H8=>?_)
              | (go_at_call 67;with_reducible refine Ny.go H6 (gx hF hBu.p) fun w7 H7=>?_)
              | (go_at_call 37;with_reducible refine Ny.go UQ (fe _ hF hBu.p [59] (by decide) hc) fun w6 H6=>?_)
              | fail)
            first|go_end0|refine bn ?_
            exact⟨rfl,by rw[e];exact H9.out⟩
           ·have hz:=Kz hBu.p hd;have hg7:=dY (F:=F) hBu.p;have hB7:=hBu.gd hg7;have hq7:q≤(dK F u).p:=aA hqu hg7.p;have e:T=xE F L (dK F u):=by rw[HT.out];unfold za;rw[HE.out];simp only[hc,hd,bQ,bp,aI]
            go_wp2_with (first
              | (go_at_call 208;with_reducible refine Ny.go H7 (rM hF hL HL hq7 (hB7.mono (by omega))) fun w8 H8=>?_)
              | (go_at_call 67;with_reducible refine Ny.go H6 (gx hF hBu.p) fun w7 H7=>?_)
              | (go_at_call 37;with_reducible refine Ny.go UQ (fe _ hF hBu.p [59] (by decide) hc) fun w6 H6=>?_)
              | fail)
            first|go_end0|refine bn ?_
            exact⟨rfl,by rw[e];exact H8.out⟩
          ·have hlt6:=eh hc (by decide)
           first
             | exact absurd hlt6 hlu
             | (have hn6:=hBu.next hlt6 (by omega);have hg7:=dY (F:=F) hn6.p;have hB7:=hn6.gd hg7;have hq7:q≤(dK F (dM u)).p:=aA hqu (aA (cg _) hg7.p);have e:T=xE F L (dK F (dM u)):=by rw[HT.out];unfold za;rw[HE.out];simp only[hc,bQ]
                go_wp2_with (first
                  | (go_at_call 208;with_reducible refine Ny.go H7 (rM hF hL HL hq7 (hB7.mono (by omega))) fun w8 H8=>?_)
                  | (go_at_call 67;with_reducible refine Ny.go H6 (gx hF hn6.p) fun w7 H7=>?_)
                  | (go_at_call 37;with_reducible refine Ny.inc UQ (by omega) (fe _ hF hBu.p [59] (by decide) hc) fun w6 gw6 dw6 kw6 vw6 H6=>?_)
                  | fail)
                first|go_end0|refine bn ?_
                exact⟨rfl,by rw[e];exact H8.out⟩))
    ·have hlt4:=eh ha (by decide);have hn4:=hB1.next hlt4 (by omega);have hg5:=dY (F:=F) hn4.p;have hB5:=hn4.gd hg5;have hq5:q≤(dK F (dM s1)).p:=aA hq1 (aA (cg _) hg5.p);have e:T=xE F L (dK F (dM s1)):=by rw[HG.out.2,aD ha]
     go_wp2_with (first
       | (go_at_call 208;with_reducible refine Ny.go H3 (rM hF hL HL hq5 (hB5.mono (by omega))) fun w4 H4=>?_)
       | (go_at_call 67;with_reducible refine Ny.go H2 (gx hF hn4.p) fun w3 H3=>?_)
       | (go_at_call 37;with_reducible refine Ny.inc H1 (by omega) (fe _ hF hB1.p [59] (by decide) ha) fun w2 gw2 dw2 kw2 vw2 H2=>?_)
       | fail)
     first|go_end0|refine bn ?_
     exact⟨rfl,by rw[e];exact H4.out⟩)
end
section
variable {g:Nat} {fv:Value} {F:List Lf} {L:Ps→Ps} {q:Nat} {s:Ps} {W:World} (hF:FB F) (hL:GL F L) (HL:sA g fv F L q)
include hF hL HL
theorem J8 (hq:q≤s.p) (hB:Bd F 0 s) (h:Nk g fv F s W) :
    vY 210 g fv F W (.tuple #[]) (jw F L s):=by
  have hn:=hF.n;have hp:=hB.p;obtain⟨T,hT⟩:∃T,T=jw F L s:=⟨_,rfl⟩;rw[←hT];have HT:=aa (show T=eF F 122 ((eO F.length (fun s=>if f7 F s=true then (if dQ F [121] (dO 15 (dZ F L) s)=true then (dK F (dM (dO 15 (dZ F L) s)),true) else (dO 15 (dZ F L) s,false)) else (s,false))) (dK F (eF F 107 (dK F (eE F s))))) from hT);clear hT;have hg1:=ie (F:=F) hp;have hB1:=hB.gd hg1;have hg2:=dY (F:=F) hB1.p;have hB2:=hB1.gd hg2;have hg3:=fO (F:=F) (c:=107) (by decide) hB2.p;have hB3:=hB2.gd hg3;have hg4:=dY (F:=F) hB3.p;have hB4:=hB3.gd hg4;have hq4:=aA hq (aA hg1.p (aA hg2.p (aA hg3.p hg4.p)));have H0:=aa (Ny.start h);clear h;go_enter Tryz.func210,Tryz.ntmps210
  go_wp2_with (first
    | (go_at_call 67;with_reducible refine Ny.go H3 (gx hF hB3.p) fun w4 H4=>?_)
    | (go_at_call 177;with_reducible refine Ny.go H2 (jB hF (hB2.mono (by omega)) 107 (by decide)) fun w3 H3=>?_)
    | (go_at_call 67;with_reducible refine Ny.go H1 (gx hF hB1.p) fun w2 H2=>?_)
    | (go_at_call 211;with_reducible refine Ny.go H0 (qZ hF (hB.mono (by omega))) fun w1 H1=>?_)
    | fail)
  go_loopw [2] (fun v wr=>∃(u:Ps) (b:Bool),v=.bool b∧q≤u.p∧Bd F 5 u∧(if b=true then eO F.length (fun s=>if f7 F s=true then (if dQ F [121] (dO 15 (dZ F L) s)=true then (dK F (dM (dO 15 (dZ F L) s)),true) else (dO 15 (dZ F L) s,false)) else (s,false)) u=eO F.length (fun s=>if f7 F s=true then (if dQ F [121] (dO 15 (dZ F L) s)=true then (dK F (dM (dO 15 (dZ F L) s)),true) else (dO 15 (dZ F L) s,false)) else (s,false)) (dK F (eF F 107 (dK F (eE F s)))) else u=eO F.length (fun s=>if f7 F s=true then (if dQ F [121] (dO 15 (dZ F L) s)=true then (dK F (dM (dO 15 (dZ F L) s)),true) else (dO 15 (dZ F L) s,false)) else (s,false)) (dK F (eF F 107 (dK F (eE F s)))))∧Ny g fv F W u wr) (fun v wr=>F.length-pOn g wr)
  case atStart=>exact⟨_,true,rfl,hq4,hB4.mono (by omega),by rw[aD rfl],H4.out⟩
  case round=>
    obtain⟨u,b,rfl,hqu,hBu,hU,hz⟩:=hrel;have U0:=aa hz;have HU:=aa hU;have HP:=aa hz.m.pOn;have hup:=hBu.p;have uu:(0:Int)≤(u.p:Int):=by omega
    clear hU
    cases b
    ·have HX:=aa (show u=eO F.length (fun s=>if f7 F s=true then (if dQ F [121] (dO 15 (dZ F L) s)=true then (dK F (dM (dO 15 (dZ F L) s)),true) else (dO 15 (dZ F L) s,false)) else (s,false)) (dK F (eF F 107 (dK F (eE F s)))) by have h1:=HU.out;rw[aB (by decide)] at h1;exact h1);clear hz;go_wp2_with fail;go_quiet (fail);have UQ:=aa (U0.out.drew nq);go_wp2_with (
       (go_at_call 177;with_reducible refine Ny.go UQ (jB hF (hBu.mono (by omega)) 122 (by decide)) fun w6 H6=>?_))
     first|go_end0|refine bn ?_
     exact⟨rfl,by rw[HT.out,←HX.out];exact H6.out⟩
    ·have HV:=aa (show eO F.length (fun s=>if f7 F s=true then (if dQ F [121] (dO 15 (dZ F L) s)=true then (dK F (dM (dO 15 (dZ F L) s)),true) else (dO 15 (dZ F L) s,false)) else (s,false)) u=eO F.length (fun s=>if f7 F s=true then (if dQ F [121] (dO 15 (dZ F L) s)=true then (dK F (dM (dO 15 (dZ F L) s)),true) else (dO 15 (dZ F L) s,false)) else (s,false)) (dK F (eF F 107 (dK F (eE F s)))) by have h1:=HU.out;rw[aD rfl] at h1;exact h1);clear HU;have q1:=qw hF hup [40] (by decide) hz.m;have q2:=qw hF hup [122] (by decide) hz.m;have hi:f7 F u=(dQ F [40] u||iM F u.p && !dQ F [122] u):=by unfold f7;rw[ju,ju];rfl
     have key:dQ F [40] u=true∨(dQ F [40] u=false∧u.p<F.length∧iM F u.p=true∧dQ F [122] u=false)∨(dQ F [40] u=false∧u.p<F.length∧iM F u.p=true∧dQ F [122] u=true)∨(dQ F [40] u=false∧u.p<F.length∧iM F u.p=false)∨(dQ F [40] u=false∧¬u.p<F.length):=by
       by_cases hl:u.p<F.length<;>cases dQ F [40] u<;>cases iM F u.p<;>cases dQ F [122] u<;>simp[hl]
     rcases key with h1|⟨h1,hlu,hw,h2⟩|⟨h1,hlu,hw,h2⟩|⟨h1,hlu,hw⟩|⟨h1,hlu⟩
     case' inl=>
       have hib:f7 F u=true:=by rw[hi,h1];rfl
       rw[h1] at q1
     case' inr.inl=>
       have hib:f7 F u=true:=by rw[hi,h1,hw,h2];rfl
       rw[h1] at q1;rw[h2] at q2;obtain⟨x2,hx2⟩:∃x,F[u.p]? = some x:=⟨_,ax hlu⟩;obtain⟨g2,o2,c2,z0,z3,z1,z2⟩:=hz.m.wc hx2;have ul:(u.p:Int)<(F.length:Int):=by omega
       have d2:decide ((u.p:Int)<(F.length:Int))=true:=aG ul;rw[rE hx2] at hw
     case' inr.inr.inl=>
       have hib:f7 F u=false:=by rw[hi,h1,hw,h2];rfl
       rw[h1] at q1;rw[h2] at q2;obtain⟨x2,hx2⟩:∃x,F[u.p]? = some x:=⟨_,ax hlu⟩;obtain⟨g2,o2,c2,z0,z3,z1,z2⟩:=hz.m.wc hx2;have ul:(u.p:Int)<(F.length:Int):=by omega
       have d2:decide ((u.p:Int)<(F.length:Int))=true:=aG ul;rw[rE hx2] at hw;have HX:=aa (show u=eO F.length (fun s=>if f7 F s=true then (if dQ F [121] (dO 15 (dZ F L) s)=true then (dK F (dM (dO 15 (dZ F L) s)),true) else (dO 15 (dZ F L) s,false)) else (s,false)) (dK F (eF F 107 (dK F (eE F s)))) by
         rw[←HV.out]
         exact(LC.gon (iE hL) hBu.p (by show (if _ then _ else _)=_;rw[aB (by rw[hib];decide)])).symm)
     case' inr.inr.inr.inl=>
       have hib:f7 F u=false:=by rw[hi,h1,hw];rfl
       rw[h1] at q1;obtain⟨x2,hx2⟩:∃x,F[u.p]? = some x:=⟨_,ax hlu⟩;obtain⟨g2,o2,c2,z0,z3,z1,z2⟩:=hz.m.wc hx2;have ul:(u.p:Int)<(F.length:Int):=by omega
       have d2:decide ((u.p:Int)<(F.length:Int))=true:=aG ul;rw[rE hx2] at hw;have HX:=aa (show u=eO F.length (fun s=>if f7 F s=true then (if dQ F [121] (dO 15 (dZ F L) s)=true then (dK F (dM (dO 15 (dZ F L) s)),true) else (dO 15 (dZ F L) s,false)) else (s,false)) (dK F (eF F 107 (dK F (eE F s)))) by
         rw[←HV.out]
         exact(LC.gon (iE hL) hBu.p (by show (if _ then _ else _)=_;rw[aB (by rw[hib];decide)])).symm)
     case' inr.inr.inr.inr=>
       have hib:f7 F u=false:=by rw[hi,h1,sY hlu];rfl
       rw[h1] at q1;obtain⟨A2,c2,z0,z3⟩:=hz.m.fc;have d2:decide ((u.p:Int)<(F.length:Int))=false:=aL (by omega);have HX:=aa (show u=eO F.length (fun s=>if f7 F s=true then (if dQ F [121] (dO 15 (dZ F L) s)=true then (dK F (dM (dO 15 (dZ F L) s)),true) else (dO 15 (dZ F L) s,false)) else (s,false)) (dK F (eF F 107 (dK F (eE F s)))) by
         rw[←HV.out]
         exact(LC.gon (iE hL) hBu.p (by show (if _ then _ else _)=_;rw[aB (by rw[hib];decide)])).symm)
     all_goals (
       have HQ:=aa (ac q1 q2);clear hz q1 q2 hi;go_wp2_with fail
       go_quiet (first
         | (go_at_call 37;with_reducible exact HQ.out.1 _)
         | (go_at_call 37;with_reducible exact HQ.out.2 _)
         | fail)
       have UQ:=aa (U0.out.drew nq))
     case true.inr.inr.inl|true.inr.inr.inr.inl|true.inr.inr.inr.inr=>
       go_wp2_with (
         (go_at_call 177;with_reducible refine Ny.go UQ (jB hF (hBu.mono (by omega)) 122 (by decide)) fun w6 H6=>?_))
       first|go_end0|refine bn ?_
       exact⟨rfl,by rw[HT.out,←HX.out];exact H6.out⟩
     case' true.inl=>
       have hgi:=qI hL hib;have hB8:=hBu.gd hgi.1;have hq8:q≤(dO 15 (dZ F L) u).p:=aA hqu hgi.1.p;have hpl:=hgi.2;have hbp:=hB8.p;have hBi:=hBu.inn 15;have hgt:=gr (F:=F) (cs:=[40]) (by decide) hBi.p;have hBt:=hBi.gd hgt;have hgw:=ie (F:=F) hBt.p;have hBw:=hBt.gd hgw;have hqw:q≤(eE F (eB F [40] (fC 15 u))).p:=aA hqu (aA hgt.p hgw.p);have HGI:=aa (td hL hBi.p);have hi5:(fC 15 u).p≤100000:=by show u.p≤_;omega
       have HK:=aa (show eB F [40] (fC 15 u)=dM (fC 15 u) from lU h1);have h1i:dQ F [40] (fC 15 u)=true:=h1
       go_wp2_with (first
         | (go_at_call 211;with_reducible refine Ny.go (Ny.cast A2 HK.out) (qZ hF (hBt.mono (by omega))) fun a3 A3=>?_)
         | (go_at_call 37;with_reducible refine Ny.inc A1 (hi5) (fe true hF hBi.p [40] (by decide) h1i) fun a2 ga2 da2 ka2 va2 A2=>?_)
         | (go_at_call 36;with_reducible refine Ny.go UQ (lh hF 15 (by decide) (hBu.mono (by omega))) fun a1 A1=>?_)
         | fail)
     case' true.inr.inl=>
       have hgi:=qI hL hib;have hB8:=hBu.gd hgi.1;have hq8:q≤(dO 15 (dZ F L) u).p:=aA hqu hgi.1.p;have hpl:=hgi.2;have hbp:=hB8.p;have hBi:=hBu.inn 15;have hgt:=gr (F:=F) (cs:=[40]) (by decide) hBi.p;have hBt:=hBi.gd hgt;have hgw:=ie (F:=F) hBt.p;have hBw:=hBt.gd hgw;have hqw:q≤(eE F (eB F [40] (fC 15 u))).p:=aA hqu (aA hgt.p hgw.p);have HGI:=aa (td hL hBi.p);have hi5:(fC 15 u).p≤100000:=by show u.p≤_;omega
       have HK:=aa (show eB F [40] (fC 15 u)=fC 15 u from pg h1);have h1i:dQ F [40] (fC 15 u)=false:=h1
       go_wp2_with (first
         | (go_at_call 211;with_reducible refine Ny.go (Ny.cast A2 HK.out) (qZ hF (hBt.mono (by omega))) fun a3 A3=>?_)
         | (go_at_call 37;with_reducible refine Ny.go A1 (fe false hF hBi.p [40] (by decide) h1i) fun a2 A2=>?_)
         | (go_at_call 36;with_reducible refine Ny.go UQ (lh hF 15 (by decide) (hBu.mono (by omega))) fun a1 A1=>?_)
         | fail)
     all_goals (
       rename_i wro;go_loopw [] (fun wr=>∃z:Ps,q≤z.p∧Bd F 7 z∧eO F.length (fun s=>if dQ F [124] s=true then (eE F (dM s),true) else (s,false)) z=eO F.length (fun s=>if dQ F [124] s=true then (eE F (dM s),true) else (s,false)) (eE F (eB F [40] (fC 15 u)))∧Ny g fv F W z wr) (fun wr=>F.length-pOn g wr)
       case atStart=>exact⟨_,hqw,hBw,rfl,A3.out⟩
       case round=>
         obtain⟨z,hqz,hBz,hlz,hz⟩:=hrel;have Z0:=aa hz;have HZ:=aa hlz;have ZP:=aa hz.m.pOn;have hzp:=hBz.p;clear hz hlz
         cases hc:dQ F [124] z
         ·have HE:=aa (HZ.out.symm.trans (LC.gon nQ hBz.p (t:=z) (by show (if _ then _ else _)=_;rw[aB (by rw[hc];decide)])));have hg5:=fO (F:=F) (c:=41) (by decide) hBz.p;have hB5:=hBz.gd hg5;have hg6:=dY (F:=F) hB5.p;have hB6:=hB5.gd hg6;have hq6:q≤(dK F (eF F 41 z)).p:=aA hqz (aA hg5.p hg6.p)
          cases hd:fq F (dK F (eF F 41 z))
          case' false=>
            have HF:=aa (show dZ F L (fC 15 u)=dK F (eF F 41 z) by unfold dZ;rw[HE.out];simp only[hd,bp,aI])
          case' true=>
            have HF:=aa (show dZ F L (fC 15 u)=dO 2 L (dK F (eF F 41 z)) by unfold dZ;rw[HE.out];simp only[hd,bQ])
          all_goals (
            cases hy:dQ F [121] (dO 15 (dZ F L) u)
            case' true=>
              have hltv:=eh hy (by decide);have hn8:=hB8.next hltv (by omega);have hg9:=dY (F:=F) hn8.p;have hB9:=hn8.gd hg9;have hq9:q≤(dK F (dM (dO 15 (dZ F L) u))).p:=aA hq8 (aA (cg _) hg9.p)
            all_goals (
              go_wp2_with (first
                | (go_at_call 67;with_reducible refine Ny.go N8a (gx hF hn8.p) fun m7 N9=>?_)
                | (go_at_call 37;with_reducible refine Ny.go N8 (fe false hF hB8.p [121] (by decide) hy) fun m6 N8a=>?_)
                | (go_at_call 37;with_reducible refine Ny.inc N8 (by omega) (fe true hF hB8.p [121] (by decide) hy) fun m6 gm6 dm6 km6 vm6 N8a=>?_)
                | (go_at_call 41;with_reducible refine Ny.go (Ny.cast M3 HF.out) (nW hF 15 (dZ F L) (by decide) (hBu.mono (by omega)) HGI.out (by omega)) fun m5 N8=>?_)
                | (go_at_call 41;with_reducible refine Ny.go (Ny.cast M4 HF.out) (nW hF 15 (dZ F L) (by decide) (hBu.mono (by omega)) HGI.out (by omega)) fun m5 N8=>?_)
                | (go_at_call 39;with_reducible refine Ny.go M3 (Bc HL hq6 (hB6.mono (by omega)) hd) fun m4 M4=>?_)
                | (go_at_call 38;with_reducible refine Ny.go M2 (mN hF _ hB6.p hd) fun m3 M3=>?_)
                | (go_at_call 67;with_reducible refine Ny.go M1 (gx hF hB5.p) fun m2 M2=>?_)
                | (go_at_call 177;with_reducible refine Ny.go Z1 (jB hF (hBz.mono (by omega)) 41 (by decide)) fun m1 M1=>?_)
                | (go_at_call 37;with_reducible refine Ny.go Z0 (fe false hF hBz.p [124] (by decide) hc) fun m0 Z1=>?_)
                | fail))
            ·have hX:eO F.length (fun s=>if f7 F s=true then (if dQ F [121] (dO 15 (dZ F L) s)=true then (dK F (dM (dO 15 (dZ F L) s)),true) else (dO 15 (dZ F L) s,false)) else (s,false)) (dK F (dM (dO 15 (dZ F L) u)))=eO F.length (fun s=>if f7 F s=true then (if dQ F [121] (dO 15 (dZ F L) s)=true then (dK F (dM (dO 15 (dZ F L) s)),true) else (dO 15 (dZ F L) s,false)) else (s,false)) (dK F (eF F 107 (dK F (eE F s)))):=by
               rw[←HV.out]
               exact(LC.goy (iE hL) hBu.p (by show (if _ then (if _ then _ else _) else _)=_;rw[aD hib,aD hy])).symm
             refine⟨⟨_,true,rfl,hq9,hB9.mono (by omega),by rw[aD rfl];exact hX,N9.out⟩,?_⟩;rw[N9.out.m.pOn,HP.out];have h1:=hg9.p;have h2:(dM (dO 15 (dZ F L) u)).p=(dO 15 (dZ F L) u).p+1:=rfl
             have:=hB9.p
             omega
            ·have hX:dO 15 (dZ F L) u=eO F.length (fun s=>if f7 F s=true then (if dQ F [121] (dO 15 (dZ F L) s)=true then (dK F (dM (dO 15 (dZ F L) s)),true) else (dO 15 (dZ F L) s,false)) else (s,false)) (dK F (eF F 107 (dK F (eE F s)))):=by
               rw[←HV.out]
               exact(LC.gon (iE hL) hBu.p (by show (if _ then (if _ then _ else _) else _)=_;rw[aD hib,aB (by rw[hy];decide)])).symm
             refine⟨⟨_,false,rfl,hq8,hB8.mono (by omega),by rw[aB (by decide)];exact hX,N8a.out⟩,?_⟩;rw[N8a.out.m.pOn,HP.out]
             have:=hB8.p
             omega)
         ·have hltz:=eh hc (by decide);have hnz:=hBz.next hltz (by omega);have hgz:=ie (F:=F) hnz.p;have hy2:=(nQ (F:=F) z hBz.p).yy (t:=eE F (dM z)) (by rw[aD hc]);have HE:=aa ((LC.goy nQ hBz.p (t:=eE F (dM z)) (by show (if _ then _ else _)=_;rw[aD hc])).symm.trans HZ.out)
          go_wp2_with (first
            | (go_at_call 211;with_reducible refine Ny.go K1 (qZ hF (hnz.mono (by omega))) fun k2 K2=>?_)
            | (go_at_call 37;with_reducible refine Ny.inc Z0 (by omega) (fe _ hF hBz.p [124] (by decide) hc) fun k1 gk1 dk1 kk1 vk1 K1=>?_)
            | fail)
          refine⟨⟨_,aA hqz (bq hy2.2),hBz.gd hy2.1,HE.out,K2.out⟩,?_⟩;rw[K2.out.m.pOn,ZP.out]
          have:=hy2.2
          have:=hy2.1.N
          omega)
end
end
end Go.Proofs.YtcagfamdoaoimaaGreatDoor
