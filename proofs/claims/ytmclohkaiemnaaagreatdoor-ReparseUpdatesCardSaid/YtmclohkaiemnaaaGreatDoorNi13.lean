/- The reference's parser: a call of a method in a walk; what the small methods tell. -/
import Derived.Test.YtmclohkaiemnaaaGreatDoorNf13
set_option linter.unusedVariables false
set_option linter.unusedSimpArgs false
set_option maxRecDepth 100000
set_option maxHeartbeats 8000000
namespace Go.Proofs.YtmclohkaiemnaaaGreatDoor
section
open Go.RowKit
theorem Ny.go {g:Nat} {fv:Value} {F:List Lf} {s t:Ps} {W W1:World} {f:FuncId} {av:Array Value} {r:Value} {Q:Ending→World→Prop} (U:Hid (Ny g fv F W s W1))
    (c:Nk g fv F s W1→Calls Tryz.prog f av W1 fun e w'=>e=.returned r∧Ny g fv F W1 t w') (k:∀w',Hid (Ny g fv F W t w')→Q (.returned r) w'):Calls Tryz.prog f av W1 Q:=
  (c U.out.m).mono (by rintro e w' ⟨rfl,hz⟩;exact k _ (ac (U.out.then hz)))
theorem Ny.inc {g:Nat} {fv:Value} {F:List Lf} {s t:Ps} {W W1:World} {f:FuncId} {av:Array Value} {r:Value} {Q:Ending→World→Prop} (U:Hid (Ny g fv F W s W1)) (ht:t.p≤100000)
    (c:Nk g fv F s W1→Calls Tryz.prog f av W1 fun e w'=>e=.returned r∧Ny g fv F W1 t w') (k:∀w',g<w'.heap.size→w'.cell? ⟨g,3,none⟩=some (.int .i64 (t.p:Int))→w'.frozen? ⟨g,3,none⟩=false→IntKind.i64.wrap ((t.p:Int)+1)=(t.p:Int)+1 →
      Hid (Ny g fv F W (dY t) (w'.setCell ⟨g,3,none⟩ (.int .i64 ((t.p:Int)+1))))→Q (.returned r) w'):Calls Tryz.prog f av W1 Q:=
  (c U.out.m).mono (by
    rintro e w' ⟨rfl,hz⟩;obtain⟨⟨_,_,d3,_,_⟩,_,e3,_,_⟩:=hz.m.cells;exact k _ hz.m.lt d3 e3 (aO _ (by omega)) (ac ((U.out.then hz).setP (t.p+1))))
theorem jF (F:List Lf) (c:UInt8) (s:Ps):ef F [c] s=(sg F s.p==c):=by
  unfold ef;rw[List.contains_cons];simp
section
variable {g:Nat} {fv:Value} {F:List Lf} {s:Ps} {W:World} (b:Bool) (hF:FB F)
include hF
theorem fw (hs:s.p≤F.length) (cs:List UInt8) (hcs:(cs.contains 0||decide (1000<cs.length))=false) (hb:ef F cs s=b) (h:Nk g fv F s W) :
    Calls Tryz.prog 22 #[.pointer (some ⟨g,0,none⟩),.string ⟨cs.toArray⟩] W fun e w'=>e=.returned (.bool b)∧Ny g fv F W s w':=by
  rw[Bool.or_eq_false_iff] at hcs;rw[←hb]
  exact(Fv hF h hs cs hcs.1 (by have:=of_decide_eq_false hcs.2;omega)).mono fun e w' ⟨h1,n,h2⟩=>⟨h1,by rw[h2];exact(Ny.start h).drew n⟩
omit hF in
theorem Nk.drews (h:Nk g fv F s W) (n:Nat):Nk g fv F s (W.drewN n):=((Ny.start h).drew n).m
theorem qg (hs:s.p≤F.length) (cs:List UInt8) (hcs:(cs.contains 0||decide (1000<cs.length))=false) (h:Nk g fv F s W) (n:Nat) :
    Calls Tryz.prog 22 #[.pointer (some ⟨g,0,none⟩),.string ⟨cs.toArray⟩] (W.drewN n) fun e w'=>e=.returned (.bool (ef F cs s))∧∃m,w'=W.drewN m:=by
  rw[Bool.or_eq_false_iff] at hcs
  exact(Fv hF (h.drews n) hs cs hcs.1 (by have:=of_decide_eq_false hcs.2;omega)).mono fun e w' ⟨h1,k,h2⟩=>⟨h1,n+k,by rw[h2,World.drewN_drewN]⟩
theorem Et (hs:s.p≤F.length) (h:Nk g fv F s W) :
    Ob 66 #[.pointer (some ⟨g,0,none⟩)] W (.bool (eS F s)):=by
  have hn:=hF.n;obtain⟨⟨c0,c1,c3,c4,c5⟩,_⟩:=h.cells;have hsl:=pN F;have v1:IntKind.i64.wrap ((s.p:Int)+1)=((s.p+1:Nat):Int):=by rw[aO _ (by omega)];omega
  have hr:eS F s=(ef F [60] s||ef F [35] s&&sg F (s.p+1)==60):=by unfold eS;rw[jF,jF]
  have q1:=qg hF hs [60] (by decide) h;have q2:=qg hF hs [35] (by decide) h;rw[hr];have hlt:ef F [35] s=true→s.p<F.length:=fun h=>er h (by decide)
  have hT:∀i,i<F.length→(ti F)[i]? = some (sg F i):=fun i hi=>vP hi
  have hnil:¬s.p+1<F.length→sg F (s.p+1)=0:=fun h=>by unfold sg;rw[bI (by omega)]
  generalize ef F [60] s=b1 at *;generalize ef F [35] s=b2 at *;obtain⟨T,hTe⟩:∃T,T=ti F:=⟨_,rfl⟩;rw[←hTe] at c1 hsl hT;obtain⟨i,hi⟩:∃i,i=s.p+1:=⟨_,rfl⟩;rw[←hi] at v1 hnil ⊢;have HQ:=ac (ae q1 q2);clear q1 q2 hr hTe h c0 c4 c5
  cases b1
  case' true=>
    clear hT hnil hlt hi
  case' false=>
    cases b2
    case' false=>
      clear hT hnil hlt hi
    case' true=>
      have u1:=hlt rfl;have u0:(0:Int)≤(i:Int):=by omega
      by_cases hi2:i<F.length
      case' pos=>
        have k1:=hT i hi2;obtain⟨c,hc⟩:∃c,c=sg F i:=⟨_,rfl⟩;rw[←hc] at k1 ⊢;obtain⟨g1,g2⟩:=az.1 k1;have g3:(ByteArray.mk T.toArray)[i]'(show i<T.length from g1)=c:=g2;have k2:((c.toNat:Int)==60)=(c==60):=iT c 60;obtain⟨bb,hbb⟩:∃bb,bb=(c==60):=⟨_,rfl⟩;rw[←hbb] at k2 ⊢;have t2:decide ((i:Int)<(T.length:Int))=true:=aG (by omega);have t3:decide (i<T.length)=true:=aG g1;clear hT hnil hlt hi k1 g2 hc hbb
      case' neg=>
        rw[hnil hi2];have t2:decide ((i:Int)<(T.length:Int))=false:=aE (by omega);have t3:decide (i<T.length)=false:=aE (by omega);clear hT hnil hlt hi
  all_goals (
    go_enter Tryz.func66,Tryz.ntmps66;go_wp2
    go_quiet (first
      | (go_at_call 22;with_reducible exact HQ.out.1 _)
      | (go_at_call 22;with_reducible exact HQ.out.2 _))
    go_wp2;go_ret;exact⟨rfl,_,rfl⟩)
end
theorem Nk.fc {g:Nat} {fv:Value} {F:List Lf} {s:Ps} {W:World} (h:Nk g fv F s W):∃A c,W.cell? ⟨g,0,none⟩=some (.slice A F.length c)∧W.cell? ⟨g,3,none⟩=some (.int .i64 (s.p:Int)):=by
  obtain⟨⟨c0,_,c3,_,_⟩,_⟩:=h.cells;obtain⟨A,c,rfl⟩:=h.f.formm;exact⟨A,c,c0,c3⟩
theorem Nk.wc {g:Nat} {fv:Value} {F:List Lf} {s:Ps} {W:World} (h:Nk g fv F s W) {x:Lf} (hx:F[s.p]? = some x):∃g1 o1 c,W.cell? ⟨g,0,none⟩=some (.slice (some ⟨g1,o1,none⟩) F.length c)∧W.cell? ⟨g,3,none⟩=some (.int .i64 (s.p:Int)) ∧
    W.cell? ⟨g1,o1+s.p*4,none⟩=some (.int .i64 x.kd)∧W.cell? ⟨g1,o1+s.p*4+1,none⟩=some (.string ⟨x.tx.toArray⟩):=by
  obtain⟨⟨c0,_,c3,_,_⟩,_⟩:=h.cells;obtain⟨A,c,rfl⟩:=h.f.formm;obtain⟨g1,o1,rfl,y0,y1,_,_⟩:=gZ h.f hx rfl;exact⟨g1,o1,c,c0,c3,y0,y1⟩
section
variable {g:Nat} {fv:Value} {F:List Lf} {s:Ps} {W:World} (hF:FB F)
include hF
theorem nB (b:Bool) (hs:s.p≤F.length) (hb:eS F s=b) (h:Nk g fv F s W) :
    vA 66 g fv F W (.bool b) s:=by
  rw[←hb]
  exact(Et hF hs h).mono fun e w' ⟨h1,n,h2⟩=>⟨h1,by rw[h2];exact(Ny.start h).drew n⟩
theorem wQ (b:Bool) (hs:s.p≤F.length) (hb:gy F s=b) (h:Nk g fv F s W) :
    vA 67 g fv F W (.bool b) s:=by
  rw[←hb];unfold gy;have H0:=ac (Ny.start h);clear h hb;obtain⟨d,hd⟩:∃d,d=decide (s.deep<200):=⟨_,rfl⟩;have hd2:decide ((s.deep:Int)<200)=d:=by rw[hd];exact decide_eq_decide.2 (by omega)
  obtain⟨z,hz⟩:∃z:Int,z=(s.deep:Int):=⟨_,rfl⟩;rw[←hz] at hd2;rw[←hd]
  cases ha:ef F [123,40,105,119,114,99] s;all_goals (
    have HA:=ac (ae ha hz);clear ha hd hz;go_enter Tryz.func67,Tryz.ntmps67;go_wp2_with (
      (go_at_call 22;with_reducible refine Ny.go H0 (fw _ hF hs [123,40,105,119,114,99] (by decide) HA.out.1) fun w1 H1=>?_
       obtain⟨⟨_,_,_,_,d5⟩,_⟩:=H1.out.m.cells;rw[←HA.out.2] at d5))
    go_ret;exact⟨by simp[Bool.and_comm],H1.out⟩)
theorem Cg (b:Bool) (hs:s.p≤F.length) (hb:lr F s=b) (h:Nk g fv F s W) :
    vA 45 g fv F W (.bool b) s:=by
  rw[←hb];unfold lr;rw[←jF];have H0:=ac (Ny.start h);clear h hb
  cases ha:ef F [120] s
  case' false=>
    cases hr:eS F s
    case' false=>cases hc:gy F s
  all_goals (
    go_enter Tryz.func45,Tryz.ntmps45
    go_wp2_with (first
      | (go_at_call 22;with_reducible refine Ny.go H0 (fw _ hF hs [120] (by decide) ha) fun w1 H1=>?_)
      | (go_at_call 66;with_reducible refine Ny.go H1 (nB hF _ hs hr) fun w2 H2=>?_)
      | (go_at_call 67;with_reducible refine Ny.go H2 (wQ hF _ hs hc) fun w3 H3=>?_)
      | fail)
    go_ret;exact⟨rfl,by first|exact H3.out|exact H2.out|exact H1.out⟩)
theorem mO (b:Bool) (hs:s.p≤F.length) (hb:eN F s=b) (h:Nk g fv F s W) :
    vA 23 g fv F W (.bool b) s:=by
  rw[←hb];unfold eN;rw[←jF];have H0:=ac (Ny.start h);clear h hb
  cases ha:ef F [33] s
  case' false=>cases hr:lr F s
  all_goals (
    go_enter Tryz.func23,Tryz.ntmps23
    go_wp2_with (first
      | (go_at_call 22;with_reducible refine Ny.go H0 (fw _ hF hs [33] (by decide) ha) fun w1 H1=>?_)
      | (go_at_call 45;with_reducible refine Ny.go H1 (Cg hF _ hs hr) fun w2 H2=>?_)
      | fail)
    go_ret;exact⟨rfl,by first|exact H2.out|exact H1.out⟩)
theorem nH (hB:Bd F 100 s) (h:Nk g fv F s W):vA 69 g fv F W (.tuple #[]) (fe s):=L6 hF h hB
theorem qe {k:Nat} (hk:(decide (1≤k)&&decide (k≤17) && !ie k)=true) (hB:Bd F 100 s) (hs:s.p<F.length) (h:Nk g fv F s W) :
    Calls Tryz.prog 25 #[.pointer (some ⟨g,0,none⟩),.int .i64 (k:Int)] W fun e w'=>e=.returned (.tuple #[])∧Ny g fv F W (eD k s) w':=by
  simp only[aR,bT,Bool.not_eq_true'] at hk;exact NA k hk.1 hk.2 hF h hB hs
theorem jK (hB:Bd F 100 s) (c:UInt8) (hc:c≠0) (h:Nk g fv F s W) :
    Calls Tryz.prog 103 #[.pointer (some ⟨g,0,none⟩),.string ⟨#[c]⟩] W fun e w'=>e=.returned (.tuple #[])∧Ny g fv F W (eE F c s) w':=by
  have hn:=hF.n;have hp:=hB.p;have hc0:([c].contains 0||decide (1000<[c].length))=false:=by simp;exact fun e=>hc e.symm
  have H0:=ac (Ny.start h);clear h;unfold eE
  cases hb:ef F [c] s
  case' false=>
    rw[aC (by decide)]
  case' true=>
    rw[aB rfl]
  all_goals (
    go_enter Tryz.func103,Tryz.ntmps103)
  case false=>
    go_wp2_with (first
      | (go_at_call 22;with_reducible refine Ny.go H0 (fw _ hF hp [c] hc0 hb) fun w1 H1=>?_)
      | (go_at_call 69;with_reducible refine Ny.go H1 (nH hF hB) fun w2 H2=>?_)
      | fail)
    first|go_end0|refine bn ?_
    exact⟨rfl,H2.out⟩
  case true=>
    go_wp2_with (
      (go_at_call 22;with_reducible refine Ny.inc H0 (by omega) (fw _ hF hp [c] hc0 hb) fun w1 hg1 d1 e1 v1 H1=>?_))
    first|go_end0|refine bn ?_
    exact⟨rfl,H1.out⟩
theorem qT (hB:Bd F 100 s) (h:Nk g fv F s W) :
    vA 128 g fv F W (.tuple #[]) (eK F s):=by
  have hn:=hF.n;have hp:=hB.p;have u2:(0:Int)≤(s.p:Int):=by omega
  have H0:=ac (Ny.start h);by_cases hlt:s.p<F.length
  case' pos=>
    obtain⟨x,hx⟩:∃x,F[s.p]? = some x:=⟨_,ax hlt⟩;obtain⟨g1,o1,c,y0,y3,y1,_⟩:=h.wc hx;have hw:iw F s.p=(x.kd==6):=by unfold iw;rw[hx]
    have u1:(s.p:Int)<(F.length:Int):=by omega
    have d1:decide ((s.p:Int)<(F.length:Int))=true:=aG u1;clear h hx
    cases hk:(x.kd==6)
    case' true=>
      have e:eK F s=eD 7 s:=by unfold eK;rw[hw,hk];rfl
    case' false=>
      have e:eK F s=fe s:=by unfold eK;rw[hw,hk];rfl
  case' neg=>
    obtain⟨A,c,y0,y3⟩:=h.fc;have d1:decide ((s.p:Int)<(F.length:Int))=false:=aE (by omega);have e:eK F s=fe s:=by unfold eK iw;rw[bI (by omega)];rfl
    clear h
  all_goals (
    rw[e];clear e;go_enter Tryz.func128,Tryz.ntmps128;go_wp2;go_quiet (fail);have H1:=ac (H0.out.drew nq)
    go_wp2_with (first
      | (go_at_call 25;with_reducible refine Ny.go H1 (qe hF (k:=7) (by decide) hB hlt) fun w2 H2=>?_)
      | (go_at_call 69;with_reducible refine Ny.go H1 (nH hF hB) fun w2 H2=>?_)
      | fail)
    first|go_end0|refine bn ?_
    exact⟨rfl,H2.out⟩)
def pOn (g:Nat) (w:World):Nat:=match w.cell? ⟨g,3,none⟩ with|some (.int _ p)=>p.toNat|_=>0
omit hF in
theorem Nk.pOn (h:Nk g fv F s W):Go.Proofs.YtmclohkaiemnaaaGreatDoor.pOn g W=s.p:=by
  unfold Go.Proofs.YtmclohkaiemnaaaGreatDoor.pOn;rw[h.cells.1.2.2.1];exact bJ _
def KW (F:List Lf) (s:Ps):Nat:=(dW F s).p-s.p
omit hF in
theorem KU (hs:s.p≤F.length) (h:ef F [110] s=true):((KW F s:Int)==0)=false:=by
  have h1:=er h (by decide);have h2:=LC.eq (i7 (F:=F)) s hs;simp only[h,bP] at h2;have h3:=(ej (F:=F) (s:=dY s) h1).p;have h4:dW F s=dW F (dY s):=h2;refine aN ?_;unfold KW;rw[h4]
  have:s.p+1≤(dW F (dY s)).p:=h3
  omega
omit hF in
theorem KV (hs:s.p≤F.length) (h:ef F [110] s=false):((KW F s:Int)==0)=true∧dW F s=s:=by
  have h2:=LC.eq (i7 (F:=F)) s hs;simp only[h,bp,aH] at h2;have h4:dW F s=s:=h2;refine⟨?_,h4⟩;unfold KW;rw[h4,dB];rfl
theorem gU (hs:s.p≤F.length) (h:Nk g fv F s W) :
    vA 47 g fv F W (.int .i64 (KW F s:Int)) (dW F s):=by
  have hn:=hF.n;have H0:=ac (Ny.start h);have hm:(KW F s:Int)=((dW F s).p:Int)-(s.p:Int):=by
    have:=(ej (F:=F) hs).p
    unfold KW;omega
  have HM:=ac hm;clear h hm;go_enter Tryz.func47,Tryz.ntmps47;go_wp2_with fail;go_loopw [3] (fun n wr=>∃u:Ps,u.p≤F.length∧s.p≤u.p∧n=.int .i64 ((u.p-s.p:Nat):Int)∧dW F u=dW F s∧Ny g fv F W u wr) (fun n wr=>F.length-pOn g wr)
  case atStart=>exact⟨s,hs,au _,by rw[dB];rfl,rfl,H0.out⟩
  case round=>
    obtain⟨u,hu,hsu,rfl,hlu,hz⟩:=hrel;have U0:=ac hz;have HU:=ac (ae hlu hz.m.pOn);clear hlu hz;obtain⟨k,hk⟩:∃k,k=u.p-s.p:=⟨_,rfl⟩;rw[←hk];have hk9:k≤900:=by omega
    have HK:=ac hk;clear hk;have hl:=LC.eq (i7 (F:=F)) u hu
    cases hb:ef F [110] u
    ·simp only[hb,bp,aH] at hl;have HL:=ac hl;clear hl;go_wp2_with (
       (go_at_call 22;with_reducible refine Ny.go U0 (fw _ hF hu [110] (by decide) hb) fun w1 H1=>?_))
     go_ret;have e:dW F s=u:=HU.out.1.symm.trans HL.out;have h9:(KW F s:Int)=(k:Int):=by
       rw[HM.out,e]
       have:=HK.out
       omega
     exact⟨by rw[h9];rfl,by rw[e];exact H1.out⟩
    ·simp only[hb,bP] at hl;have HL:=ac hl;clear hl;have hlt:=er hb (by decide);go_wp2_with (
       (go_at_call 22;with_reducible refine Ny.inc U0 (by omega) (fw _ hF hu [110] (by decide) hb) fun w1 hg1 d1 e1 v1 H1=>?_))
     refine⟨⟨dY u,hlt,by show s.p≤u.p+1;omega,by show _=Value.int .i64 (((u.p+1)-s.p:Nat):Int);rw[show u.p+1-s.p=k+1 by rw[HK.out];omega];rfl,by rw[←HU.out.1];exact HL.out.symm,H1.out⟩,?_⟩;rw[H1.out.m.pOn,HU.out.2];show F.length-(u.p+1)<F.length-u.p;omega
end
theorem Ny.nxt {g:Nat} {fv:Value} {F:List Lf} {s:Ps} {W W1:World} (U:Hid (Ny g fv F W s W1)) (z:Int) (hz:z=(s.p:Int)+1):Hid (Ny g fv F W (dY s) (W1.setCell ⟨g,3,none⟩ (.int .i64 z))):=by
  subst hz;exact U.out.setP (s.p+1)
theorem Ny.inc3 {g:Nat} {fv:Value} {F:List Lf} {s:Ps} {W W1:World} (U:Hid (Ny g fv F W s W1)):g<W1.heap.size∧W1.cell? ⟨g,3,none⟩=some (.int .i64 (s.p:Int))∧W1.frozen? ⟨g,3,none⟩=false:=by
  obtain⟨⟨_,_,d3,_,_⟩,_,e3,_,_⟩:=U.out.m.cells;exact⟨U.out.m.lt,d3,e3⟩
theorem Ny.cast {g:Nat} {fv:Value} {F:List Lf} {s t:Ps} {W W1:World} (U:Hid (Ny g fv F W s W1)) (e:t=s):Hid (Ny g fv F W t W1):=by rw[e];exact U
theorem B4 (k:Nat) (s:Ps):(fG k s).l.length=s.l.length+1:=by show (s.l++[_]).length=_;simp
section
variable {g:Nat} {fv:Value} {F:List Lf} {s:Ps} {W:World} (hF:FB F)
include hF
theorem kJ (k:Nat) (hk:(decide (k≤18) && !ie k)=true) (hB:Bd F 100 s) (h:Nk g fv F s W) :
    Calls Tryz.prog 21 #[.pointer (some ⟨g,0,none⟩),.int .i64 (k:Int)] W fun e w'=>e=.returned (.int .i64 s.up)∧Ny g fv F W (fG k s) w':=by
  simp only[aR,bT,Bool.not_eq_true'] at hk;exact wU k hk.2 h (hB.l5 hF (by omega)) hk.1 (by have:=hB.d;omega)
theorem nS (k:Nat) (f:Ps→Ps) (hk:ie k=false) (hB:Bd F 100 s) {B:Nat} (hG:Gd F.length B (fG k s) (f (fG k s))) (hb:B≤1000) (h:Nk g fv F (f (fG k s)) W) :
    Calls Tryz.prog 26 #[.pointer (some ⟨g,0,none⟩),.int .i64 s.up] W fun e w'=>e=.returned (.tuple #[])∧Ny g fv F W (eh k f s) w':=by
  have h1:=hG.b;rw[B4] at h1
  have:=hB.l5 hF (by omega)
  have:=hG.N
  have:=hF.n
  exact Gu k f hk hG h (by omega) (by have:=hB.d;omega)
theorem ze (k:Nat) (hk:(decide (k≤18)&&ie k)=true) (hB:Bd F 100 s) (h:Nk g fv F s W) :
    Calls Tryz.prog 21 #[.pointer (some ⟨g,0,none⟩),.int .i64 (k:Int)] W fun e w'=>e=.returned (.int .i64 s.up)∧Ny g fv F W (fG k {s with deep:=s.deep+1}) w':=by
  simp only[aR,bT] at hk;exact Kr k hk.2 h (hB.l5 hF (by omega)) hk.1 (by have:=hB.d;omega)
theorem Gs (k:Nat) (f:Ps→Ps) (hk:ie k=true) (hB:Bd F 100 s) {B:Nat} (hG:Gd F.length B (fG k {s with deep:=s.deep+1}) (f (fG k {s with deep:=s.deep+1}))) (hb:B≤1000) (h:Nk g fv F (f (fG k {s with deep:=s.deep+1})) W) :
    Calls Tryz.prog 26 #[.pointer (some ⟨g,0,none⟩),.int .i64 s.up] W fun e w'=>e=.returned (.tuple #[])∧Ny g fv F W (jI k f s) w':=by
  have h1:=hG.b;rw[B4] at h1;have h2:({s with deep:=s.deep+1}:Ps).l.length=s.l.length:=rfl
  have:=hB.l5 hF (by omega)
  have:=hG.N
  have:=hF.n
  exact NO k f hk hG h (by omega) (by have:=hB.d;omega)
theorem tq (hB:Bd F 99 s) (hb:eS F s=true) (h:Nk g fv F s W) :
    vA 104 g fv F W (.tuple #[]) (fH F s):=by
  have hn:=hF.n;have hp:=hB.p;have hi:=hB.inn 8;have hi5:(fG 8 s).p≤100000:=by show s.p≤_;omega
  have hw1:=fJ (F:=F) (cs:=[35]) (by decide) hi.p;have hw2:=fJ (F:=F) (cs:=[60]) (by decide) hw1.N;have hw3:=gK (F:=F) hw2.N;have hG:=(hw1.trans hw2).trans hw3;have H0:=ac (Ny.start h);clear h
  cases ha:ef F [35] (fG 8 s)
  ·have e1:eG F [35] (fG 8 s)=fG 8 s:=oZ ha;have e2:eG F [60] (fG 8 s)=dY (fG 8 s):=lT (by
     rw[jF] at ha ⊢;have h0:sg F (fG 8 s).p=sg F s.p:=rfl;rw[h0] at ha ⊢;unfold eS at hb;rw[ha,dC,Bool.or_false] at hb;exact hb)
   obtain⟨f,hf⟩:∃f:Ps→Ps,f=fun s=>eK F (eG F [60] (eG F [35] s)):=⟨_,rfl⟩
   have hx:fH F s=eh 8 f s:=by rw[hf];rfl
   have hB2:Bd F 100 (dY (fG 8 s)):=⟨by show s.p+1≤_;exact tr hb,by have:=hi.l;show _≤46*(s.p+1)+100;have:(dY (fG 8 s)).l.length=(fG 8 s).l.length:=rfl;have:(fG 8 s).p=s.p:=rfl;omega,hB.d⟩;rw[e1,e2] at hG;rw[hx];have HE:=ac (show f (fG 8 s)=eK F (dY (fG 8 s)) by rw[hf];simp only;rw[e1,e2]);have HG:=ac (show Gd F.length _ (fG 8 s) (f (fG 8 s)) by rw[HE.out];exact hG);clear hw1 hw2 hw3 e1 e2 hx hG hf;go_enter Tryz.func104,Tryz.ntmps104
   go_wp2_with (first
     | (go_at_call 21;with_reducible refine Ny.go H0 (kJ hF 8 (by decide) (hB.mono (by omega))) fun w1 H1=>?_)
     | (go_at_call 22;with_reducible refine Ny.inc H1 hi5 (fw _ hF hi.p [35] (by decide) ha) fun w2 hg2 d2 k2 v2 H2=>?_)
     | (go_at_call 128;with_reducible refine Ny.go H2 (qT hF hB2) fun w3 H3=>?_)
     | (go_at_call 26;with_reducible refine Ny.go (Ny.cast H3 HE.out) (nS hF 8 f (by decide) (hB.mono (by omega)) HG.out (by omega)) fun w4 H4=>?_)
     | fail)
   first|go_end0|refine bn ?_
   exact⟨rfl,H4.out⟩
  ·have hlt:s.p<F.length:=tr hb;have e1:eG F [35] (fG 8 s)=dY (fG 8 s):=lT ha;have h60:sg F (s.p+1)=60:=by
     rw[jF] at ha;have h0:sg F (fG 8 s).p=sg F s.p:=rfl;rw[h0] at ha;unfold eS at hb;rw[ha,cN] at hb;have h1:sg F s.p=35:=by simpa using ha
     rw[h1] at hb;simpa using hb
   have hlt2:s.p+1<F.length:=oV (by rw[h60];decide);have e2:eG F [60] (dY (fG 8 s))=dY (dY (fG 8 s)):=lT (by rw[jF];show (sg F (s.p+1)==60)=true;rw[h60];rfl);obtain⟨f,hf⟩:∃f:Ps→Ps,f=fun s=>eK F (eG F [60] (eG F [35] s)):=⟨_,rfl⟩
   have hx:fH F s=eh 8 f s:=by rw[hf];rfl
   have hB2:Bd F 100 (dY (dY (fG 8 s))):=⟨by show s.p+1+1≤_;omega,by have:=hi.l;show _≤46*(s.p+1+1)+100;have:(dY (dY (fG 8 s))).l.length=(fG 8 s).l.length:=rfl;have:(fG 8 s).p=s.p:=rfl;omega,hB.d⟩;rw[e1,e2] at hG;rw[hx];have HE:=ac (show f (fG 8 s)=eK F (dY (dY (fG 8 s))) by rw[hf];simp only;rw[e1,e2]);have v3:IntKind.i64.wrap ((s.p:Int)+1+1)=(s.p:Int)+1+1:=aO _ (by omega);have HG:=ac (show Gd F.length _ (fG 8 s) (f (fG 8 s)) by rw[HE.out];exact hG);clear hw1 hw2 hw3 e1 e2 hx hG hf;go_enter Tryz.func104,Tryz.ntmps104
   go_wp2_with (first
     | (go_at_call 21;with_reducible refine Ny.go H0 (kJ hF 8 (by decide) (hB.mono (by omega))) fun w1 H1=>?_)
     | (go_at_call 22;with_reducible refine Ny.inc H1 hi5 (fw _ hF hi.p [35] (by decide) ha) fun w2 hg2 d2 k2 v2 H2=>?_
        have H2':=Ny.nxt H2 ((s.p:Int)+1+1) rfl)
     | (go_at_call 128;with_reducible refine Ny.go H2' (qT hF hB2) fun w3 H3=>?_)
     | (go_at_call 26;with_reducible refine Ny.go (Ny.cast H3 HE.out) (nS hF 8 f (by decide) (hB.mono (by omega)) HG.out (by omega)) fun w4 H4=>?_)
     | fail)
   first|go_end0|refine bn ?_
   exact⟨rfl,H4.out⟩
end
def ss (g:Nat) (fv:Value) (F:List Lf) (L:Ps→Ps) (q:Nat):Prop:=∀(s:Ps) (W:World),q≤s.p→Bd F 19 s→eN F s=true→Nk g fv F s W →
  vA 24 g fv F W (.tuple #[]) (eh 2 L s)
theorem Ar {g:Nat} {fv:Value} {F:List Lf} {L:Ps→Ps} {q:Nat} {s:Ps} {W:World} (HL:ss g fv F L q) (hq:q≤s.p) (hB:Bd F 19 s) (hb:eN F s=true) (h:Nk g fv F s W) :
    vA 24 g fv F W (.tuple #[]) (eh 2 L s):=HL s W hq hB hb h
section
variable {g:Nat} {fv:Value} {F:List Lf} {L:Ps→Ps} {q:Nat} {s:Ps} {W:World} (hF:FB F) (hL:GL F L) (HL:ss g fv F L q)
include hF HL
theorem mW (hq:q≤s.p) (hB:Bd F 14 s) (h:Nk g fv F s W) :
    vA 123 g fv F W (.tuple #[]) (eI F L s):=by
  have hp:=hB.p;have hg1:=ej (F:=F) hp;have hB1:=hB.gd hg1;have hq1:q≤(dW F s).p:=aA hq hg1.p;have H0:=ac (Ny.start h);clear h;unfold eI
  cases hb:eN F (dW F s)
  case' false=>rw[aC (by decide)]
  case' true=>rw[aB rfl]
  all_goals (
    go_enter Tryz.func123,Tryz.ntmps123
    go_wp2_with (first
      | (go_at_call 47;with_reducible refine Ny.go H0 (gU hF hp) fun w1 H1=>?_)
      | (go_at_call 23;with_reducible refine Ny.go H1 (mO hF _ hB1.p hb) fun w2 H2=>?_)
      | (go_at_call 24;with_reducible refine Ny.go H2 (Ar HL hq1 (hB1.mono (by omega)) hb) fun w3 H3=>?_)
      | (go_at_call 69;with_reducible refine Ny.go H2 (nH hF (hB1.mono (by omega))) fun w3 H3=>?_)
      | fail)
    first|go_end0|refine bn ?_
    exact⟨rfl,H3.out⟩)
include hL
theorem rM (hq:q≤s.p) (hB:Bd F 9 s) (h:Nk g fv F s W) :
    vA 124 g fv F W (.tuple #[]) (vp F L s):=by
  have hg1:=fp (F:=F) (c:=100) (by decide) hB.p;have hB1:=hB.gd hg1;have hq1:=aA hq hg1.p;have hB2:=hB1.gd (fy hL hB1.p);have H0:=ac (Ny.start h);clear h;unfold vp;go_enter Tryz.func124,Tryz.ntmps124
  go_wp2_with (first
    | (go_at_call 103;with_reducible refine Ny.go H2 (jK hF (hB2.mono (by omega)) 103 (by decide)) fun w3 H3=>?_)
    | (go_at_call 123;with_reducible refine Ny.go H1 (mW hF HL hq1 (hB1.mono (by omega))) fun w2 H2=>?_)
    | (go_at_call 103;with_reducible refine Ny.go H0 (jK hF (hB.mono (by omega)) 100 (by decide)) fun w1 H1=>?_)
    | fail)
  first|go_end0|refine bn ?_
  exact⟨rfl,H3.out⟩
end
theorem wC (l:List UInt8) (b:Bool) (hb:iC l=b) (hl:l.length≤100000) (W:World) (n:Nat):Calls Tryz.prog 102 #[.string ⟨l.toArray⟩] (W.drewN n) fun e w'=>e=.returned (.bool b)∧∃m,w'=W.drewN m:=
  (yz l _ hl).mono fun e w' ⟨h1,h2⟩=>⟨by rw[h1,FR,hb],n,h2.symm⟩
theorem LC.yy {N B:Nat} {s t:Ps} {r:Ps×Bool} (h:LC N B s r) (e:r=(t,true)):Gd N 0 s t∧s.p<t.p:=by rw[e] at h;exact h.1 rfl
theorem LC.goy {N B:Nat} {c:Ps→Ps×Bool} {s t:Ps} (h:∀s,s.p≤N→LC N B s (c s)) (hs:s.p≤N) (e:c s=(t,true)):eV N c s=eV N c t:=by
  have h1:=LC.eq h s hs;simp only[e,bP] at h1;exact h1
theorem LC.gon {N B:Nat} {c:Ps→Ps×Bool} {s t:Ps} (h:∀s,s.p≤N→LC N B s (c s)) (hs:s.p≤N) (e:c s=(t,false)):eV N c s=t:=by
  have h1:=LC.eq h s hs;simp only[e,bp,aH] at h1;exact h1
theorem rG {F:List Lf} {i:Nat} {x:Lf} (hx:F[i]? = some x):iw F i=(x.kd==6):=by unfold iw;rw[hx]
theorem DI {F:List Lf} {i:Nat} {x:Lf} (hx:F[i]? = some x):tx F i=x.tx:=by unfold tx;rw[hx]
theorem sR {F:List Lf} {i:Nat} (h:¬i<F.length):iw F i=false:=by unfold iw;rw[bI (by omega)]
section
variable {g:Nat} {fv:Value} {F:List Lf} {L:Ps→Ps} {q:Nat} {s:Ps} {W:World} (hF:FB F) (hL:GL F L) (HL:ss g fv F L q)
include hF hL HL
theorem NJ (hq:q≤s.p) (hB:Bd F 0 s) (h:Nk g fv F s W) :
    vA 125 g fv F W (.tuple #[]) (gR F L s):=by
  have hn:=hF.n;have hp:=hB.p;obtain⟨T,hT⟩:∃T,T=gR F L s:=⟨_,rfl⟩;rw[←hT];have H0:=ac (Ny.start h);have us:(0:Int)≤(s.p:Int):=by omega
  have key:∃s1,s1=(if (iw F s.p&&iC (tx F s.p))=true then eD 7 s else fe s):=⟨_,rfl⟩;obtain⟨s1,hs1⟩:=key;have hg1:Gd F.length 1 s s1:=by rw[hs1];exact Gd.ite (fun hc=>(fR (fO ((aR _ _).mp hc).1)).1) (fun _=>gV hp)
  have hB1:=hB.gd hg1;have hq1:q≤s1.p:=aA hq hg1.p;have hT1:T=vp F L (if ef F [59] s1=true then dW F (dY s1) else if ef F [107] (dW F s1)=true then uB F (dW F s1) else dW F s1):=by rw[hT,hs1];rfl
  have HG:=ac (ae hg1 hT1);clear hT hT1 hg1;by_cases hlt:s.p<F.length
  case' pos=>
    obtain⟨x,hx⟩:∃x,F[s.p]? = some x:=⟨_,ax hlt⟩;have hxl:=hF.t x (aI hx);rw[rG hx,DI hx] at hs1;obtain⟨g1,o1,c,y0,y3,y1,y2⟩:=h.wc hx;have u1:(s.p:Int)<(F.length:Int):=by omega
    have d1:decide ((s.p:Int)<(F.length:Int))=true:=aG u1;clear h hx
    cases hk:(x.kd==6)
    case' false=>
      rw[hk] at hs1;replace hs1:s1=fe s:=hs1
    case' true=>
      rw[hk] at hs1
      cases hm:iC x.tx
      case' false=>
        rw[hm] at hs1;replace hs1:s1=fe s:=hs1;have HN:=ac (wC x.tx false hm (by omega) W)
      case' true=>
        rw[hm] at hs1;replace hs1:s1=eD 7 s:=hs1;have HN:=ac (wC x.tx true hm (by omega) W)
      all_goals clear hm
  case' neg=>
    obtain⟨A,c,y0,y3⟩:=h.fc;have d1:decide ((s.p:Int)<(F.length:Int))=false:=aE (by omega);rw[sR hlt] at hs1;replace hs1:s1=fe s:=hs1;clear h
  all_goals (
    have H1':=ac hs1;clear hs1;go_enter Tryz.func125,Tryz.ntmps125;go_wp2_with fail;go_quiet (
      (go_at_call 102;with_reducible exact HN.out _))
    have HQ:=ac (H0.out.drew nq)
    go_upto_region 3 with (first
      | (go_at_call 25;with_reducible refine Ny.go HQ (qe hF (k:=7) (by decide) (hB.mono (by omega)) hlt) fun w1 H1=>?_)
      | (go_at_call 69;with_reducible refine Ny.go HQ (nH hF (hB.mono (by omega))) fun w1 H1=>?_)
      | fail)
    have H1:=Ny.cast H1 H1'.out;try clear HN
    clear H1' HQ H0 d1 y0 y3
    cases ha:ef F [59] s1
    ·have hg2:=ej (F:=F) hB1.p;have hB2:=hB1.gd hg2;have hq2:q≤(dW F s1).p:=aA hq1 hg2.p
     cases hk2:ef F [107] (dW F s1)
     ·have e:T=vp F L (dW F s1):=by rw[HG.out.2,aC (by rw[ha];decide),aC (by rw[hk2];decide)]
      go_wp2_with (first
        | (go_at_call 124;with_reducible refine Ny.go H4 (rM hF hL HL hq2 (hB2.mono (by omega))) fun w5 H5=>?_)
        | (go_at_call 22;with_reducible refine Ny.go H3 (fw _ hF hB2.p [107] (by decide) hk2) fun w4 H4=>?_)
        | (go_at_call 47;with_reducible refine Ny.go H2 (gU hF hB1.p) fun w3 H3=>?_)
        | (go_at_call 22;with_reducible refine Ny.go H1 (fw _ hF hB1.p [59] (by decide) ha) fun w2 H2=>?_)
        | fail)
      first|go_end0|refine bn ?_
      exact⟨rfl,by rw[e];exact H5.out⟩
     ·have hlt4:=er hk2 (by decide);have hn4:=hB2.next hlt4 (by omega);have hq4:q≤(dY (dW F s1)).p:=aA hq2 (bW _);have HT:=ac (show T=vp F L (uB F (dW F s1)) by rw[HG.out.2,aC (by rw[ha];decide),aB hk2])
      go_wp2_with (first
        | (go_at_call 22;with_reducible refine Ny.inc H3 (by omega) (fw _ hF hB2.p [107] (by decide) hk2) fun w4 gw4 dw4 kw4 vw4 H4=>?_)
        | (go_at_call 47;with_reducible refine Ny.go H2 (gU hF hB1.p) fun w3 H3=>?_)
        | (go_at_call 22;with_reducible refine Ny.go H1 (fw _ hF hB1.p [59] (by decide) ha) fun w2 H2=>?_)
        | fail)
      go_loopw [] (fun wr=>∃u:Ps,q≤u.p∧Bd F 0 u∧jm F u=jm F (dY (dW F s1))∧Ny g fv F W u wr) (fun wr=>F.length-pOn g wr)
      case atStart=>exact⟨_,hq4,hn4,rfl,H4.out⟩
      case round=>
        obtain⟨u,hqu,hBu,hlu,hz⟩:=hrel;have U0:=ac hz;have HU:=ac hlu;have HP:=ac hz.m.pOn;have uu:(0:Int)≤(u.p:Int):=by omega
        have hup:=hBu.p;clear hlu;by_cases hlu:u.p<F.length
        case' pos=>
          obtain⟨x2,hx2⟩:∃x,F[u.p]? = some x:=⟨_,ax hlu⟩;have hw:=rG hx2;obtain⟨g2,o2,c2,z0,z3,z1,z2⟩:=hz.m.wc hx2;have ul:(u.p:Int)<(F.length:Int):=by omega
          have d2:decide ((u.p:Int)<(F.length:Int))=true:=aG ul;clear hz hx2
          cases hkd:(x2.kd==6)
          case' true=>
            rw[hkd] at hw;have hy:=(ix (F:=F) u hBu.p).yy (t:=eD 7 u) (by rw[aB hw]);have HE:=ac ((LC.goy ix hBu.p (t:=eD 7 u) (by show (if _ then _ else _)=_;rw[aB hw])).symm.trans HU.out);go_wp2_with fail;go_quiet (fail);have UQ:=ac (U0.out.drew nq);go_wp2_with (
              (go_at_call 25;with_reducible refine Ny.go UQ (qe hF (k:=7) (by decide) (hBu.mono (by omega)) hlu) fun w6 H6=>?_))
            refine⟨⟨_,aA hqu (aM hy.2),hBu.gd hy.1,HE.out,H6.out⟩,?_⟩;rw[H6.out.m.pOn,HP.out]
            have:=hy.2
            have:=hy.1.N
            omega
          case' false=>
            rw[hkd] at hw
        case' neg=>
          have hw:=sR hlu;obtain⟨A2,c2,z0,z3⟩:=hz.m.fc;have d2:decide ((u.p:Int)<(F.length:Int))=false:=aE (by omega);clear hz
        all_goals (
          have HE:=ac (HU.out.symm.trans (LC.gon ix hBu.p (t:=u) (by show (if _ then _ else _)=_;rw[aC (by rw[hw];decide)])));go_wp2_with fail;go_quiet (fail);have UQ:=ac (U0.out.drew nq);clear hw z0 z3 d2
          cases hc:ef F [59] u
          ·cases hd:ef F [110] u
           ·obtain⟨hz,hz2⟩:=KV hBu.p hd;have HZ:=ac hz2.symm;clear hz2;have hg7:=gV (F:=F) hBu.p;have hB7:=hBu.gd hg7;have hq7:q≤(fe u).p:=aA hqu hg7.p;have e:T=vp F L (fe u):=by rw[HT.out];unfold uB;rw[HE.out];simp only[hc,hd,bp,aH]
            go_wp2_with (first
              | (go_at_call 124;with_reducible refine Ny.go H8 (rM hF hL HL hq7 (hB7.mono (by omega))) fun w9 H9=>?_)
              | (go_at_call 69;with_reducible refine Ny.go (Ny.cast H7 HZ.out) (nH hF (hBu.mono (by omega))) fun w8 H8=>?_)
              | (go_at_call 47;with_reducible refine Ny.go H6 (gU hF hBu.p) fun w7 H7=>?_)
              | (go_at_call 22;with_reducible refine Ny.go UQ (fw _ hF hBu.p [59] (by decide) hc) fun w6 H6=>?_)
              | fail)
            first|go_end0|refine bn ?_
            exact⟨rfl,by rw[e];exact H9.out⟩
           ·have hz:=KU hBu.p hd;have hg7:=ej (F:=F) hBu.p;have hB7:=hBu.gd hg7;have hq7:q≤(dW F u).p:=aA hqu hg7.p;have e:T=vp F L (dW F u):=by rw[HT.out];unfold uB;rw[HE.out];simp only[hc,hd,bP,bp,aH]
            go_wp2_with (first
              | (go_at_call 124;with_reducible refine Ny.go H7 (rM hF hL HL hq7 (hB7.mono (by omega))) fun w8 H8=>?_)
              | (go_at_call 47;with_reducible refine Ny.go H6 (gU hF hBu.p) fun w7 H7=>?_)
              | (go_at_call 22;with_reducible refine Ny.go UQ (fw _ hF hBu.p [59] (by decide) hc) fun w6 H6=>?_)
              | fail)
            first|go_end0|refine bn ?_
            exact⟨rfl,by rw[e];exact H8.out⟩
          ·have hlt6:=er hc (by decide)
           first
             | exact absurd hlt6 hlu
             | (have hn6:=hBu.next hlt6 (by omega);have hg7:=ej (F:=F) hn6.p;have hB7:=hn6.gd hg7;have hq7:q≤(dW F (dY u)).p:=aA hqu (aA (bW _) hg7.p);have e:T=vp F L (dW F (dY u)):=by rw[HT.out];unfold uB;rw[HE.out];simp only[hc,bP]
                go_wp2_with (first
                  | (go_at_call 124;with_reducible refine Ny.go H7 (rM hF hL HL hq7 (hB7.mono (by omega))) fun w8 H8=>?_)
                  | (go_at_call 47;with_reducible refine Ny.go H6 (gU hF hn6.p) fun w7 H7=>?_)
                  | (go_at_call 22;with_reducible refine Ny.inc UQ (by omega) (fw _ hF hBu.p [59] (by decide) hc) fun w6 gw6 dw6 kw6 vw6 H6=>?_)
                  | fail)
                first|go_end0|refine bn ?_
                exact⟨rfl,by rw[e];exact H8.out⟩))
    ·have hlt4:=er ha (by decide);have hn4:=hB1.next hlt4 (by omega);have hg5:=ej (F:=F) hn4.p;have hB5:=hn4.gd hg5;have hq5:q≤(dW F (dY s1)).p:=aA hq1 (aA (bW _) hg5.p);have e:T=vp F L (dW F (dY s1)):=by rw[HG.out.2,aB ha]
     go_wp2_with (first
       | (go_at_call 124;with_reducible refine Ny.go H3 (rM hF hL HL hq5 (hB5.mono (by omega))) fun w4 H4=>?_)
       | (go_at_call 47;with_reducible refine Ny.go H2 (gU hF hn4.p) fun w3 H3=>?_)
       | (go_at_call 22;with_reducible refine Ny.inc H1 (by omega) (fw _ hF hB1.p [59] (by decide) ha) fun w2 gw2 dw2 kw2 vw2 H2=>?_)
       | fail)
     first|go_end0|refine bn ?_
     exact⟨rfl,by rw[e];exact H4.out⟩)
end
section
variable {g:Nat} {fv:Value} {F:List Lf} {L:Ps→Ps} {q:Nat} {s:Ps} {W:World} (hF:FB F) (hL:GL F L) (HL:ss g fv F L q)
include hF hL HL
theorem Kj (hq:q≤s.p) (hB:Bd F 0 s) (h:Nk g fv F s W) :
    vA 126 g fv F W (.tuple #[]) (ji F L s):=by
  have hn:=hF.n;have hp:=hB.p;obtain⟨T,hT⟩:∃T,T=ji F L s:=⟨_,rfl⟩;rw[←hT];have HT:=ac (show T=eE F 122 ((eV F.length (fun s=>if gx F s=true then (if ef F [121] (eh 15 (eB F L) s)=true then (dW F (dY (eh 15 (eB F L) s)),true) else (eh 15 (eB F L) s,false)) else (s,false))) (dW F (eE F 107 (dW F (eK F s))))) from hT);clear hT;have hg1:=gK (F:=F) hp;have hB1:=hB.gd hg1;have hg2:=ej (F:=F) hB1.p;have hB2:=hB1.gd hg2;have hg3:=fp (F:=F) (c:=107) (by decide) hB2.p;have hB3:=hB2.gd hg3;have hg4:=ej (F:=F) hB3.p;have hB4:=hB3.gd hg4;have hq4:=aA hq (aA hg1.p (aA hg2.p (aA hg3.p hg4.p)));have H0:=ac (Ny.start h);clear h;go_enter Tryz.func126,Tryz.ntmps126
  go_wp2_with (first
    | (go_at_call 47;with_reducible refine Ny.go H3 (gU hF hB3.p) fun w4 H4=>?_)
    | (go_at_call 103;with_reducible refine Ny.go H2 (jK hF (hB2.mono (by omega)) 107 (by decide)) fun w3 H3=>?_)
    | (go_at_call 47;with_reducible refine Ny.go H1 (gU hF hB1.p) fun w2 H2=>?_)
    | (go_at_call 128;with_reducible refine Ny.go H0 (qT hF (hB.mono (by omega))) fun w1 H1=>?_)
    | fail)
  go_loopw [2] (fun v wr=>∃(u:Ps) (b:Bool),v=.bool b∧q≤u.p∧Bd F 5 u∧(if b=true then eV F.length (fun s=>if gx F s=true then (if ef F [121] (eh 15 (eB F L) s)=true then (dW F (dY (eh 15 (eB F L) s)),true) else (eh 15 (eB F L) s,false)) else (s,false)) u=eV F.length (fun s=>if gx F s=true then (if ef F [121] (eh 15 (eB F L) s)=true then (dW F (dY (eh 15 (eB F L) s)),true) else (eh 15 (eB F L) s,false)) else (s,false)) (dW F (eE F 107 (dW F (eK F s)))) else u=eV F.length (fun s=>if gx F s=true then (if ef F [121] (eh 15 (eB F L) s)=true then (dW F (dY (eh 15 (eB F L) s)),true) else (eh 15 (eB F L) s,false)) else (s,false)) (dW F (eE F 107 (dW F (eK F s)))))∧Ny g fv F W u wr) (fun v wr=>F.length-pOn g wr)
  case atStart=>exact⟨_,true,rfl,hq4,hB4.mono (by omega),by rw[aB rfl],H4.out⟩
  case round=>
    obtain⟨u,b,rfl,hqu,hBu,hU,hz⟩:=hrel;have U0:=ac hz;have HU:=ac hU;have HP:=ac hz.m.pOn;have hup:=hBu.p;have uu:(0:Int)≤(u.p:Int):=by omega
    clear hU
    cases b
    ·have HX:=ac (show u=eV F.length (fun s=>if gx F s=true then (if ef F [121] (eh 15 (eB F L) s)=true then (dW F (dY (eh 15 (eB F L) s)),true) else (eh 15 (eB F L) s,false)) else (s,false)) (dW F (eE F 107 (dW F (eK F s)))) by have h1:=HU.out;rw[aC (by decide)] at h1;exact h1);clear hz;go_wp2_with fail;go_quiet (fail);have UQ:=ac (U0.out.drew nq);go_wp2_with (
       (go_at_call 103;with_reducible refine Ny.go UQ (jK hF (hBu.mono (by omega)) 122 (by decide)) fun w6 H6=>?_))
     first|go_end0|refine bn ?_
     exact⟨rfl,by rw[HT.out,←HX.out];exact H6.out⟩
    ·have HV:=ac (show eV F.length (fun s=>if gx F s=true then (if ef F [121] (eh 15 (eB F L) s)=true then (dW F (dY (eh 15 (eB F L) s)),true) else (eh 15 (eB F L) s,false)) else (s,false)) u=eV F.length (fun s=>if gx F s=true then (if ef F [121] (eh 15 (eB F L) s)=true then (dW F (dY (eh 15 (eB F L) s)),true) else (eh 15 (eB F L) s,false)) else (s,false)) (dW F (eE F 107 (dW F (eK F s)))) by have h1:=HU.out;rw[aB rfl] at h1;exact h1);clear HU;have q1:=qg hF hup [40] (by decide) hz.m;have q2:=qg hF hup [122] (by decide) hz.m;have hi:gx F u=(ef F [40] u||iw F u.p && !ef F [122] u):=by unfold gx;rw[jF,jF];rfl
     have key:ef F [40] u=true∨(ef F [40] u=false∧u.p<F.length∧iw F u.p=true∧ef F [122] u=false)∨(ef F [40] u=false∧u.p<F.length∧iw F u.p=true∧ef F [122] u=true)∨(ef F [40] u=false∧u.p<F.length∧iw F u.p=false)∨(ef F [40] u=false∧¬u.p<F.length):=by
       by_cases hl:u.p<F.length<;>cases ef F [40] u<;>cases iw F u.p<;>cases ef F [122] u<;>simp[hl]
     rcases key with h1|⟨h1,hlu,hw,h2⟩|⟨h1,hlu,hw,h2⟩|⟨h1,hlu,hw⟩|⟨h1,hlu⟩
     case' inl=>
       have hib:gx F u=true:=by rw[hi,h1];rfl
       rw[h1] at q1
     case' inr.inl=>
       have hib:gx F u=true:=by rw[hi,h1,hw,h2];rfl
       rw[h1] at q1;rw[h2] at q2;obtain⟨x2,hx2⟩:∃x,F[u.p]? = some x:=⟨_,ax hlu⟩;obtain⟨g2,o2,c2,z0,z3,z1,z2⟩:=hz.m.wc hx2;have ul:(u.p:Int)<(F.length:Int):=by omega
       have d2:decide ((u.p:Int)<(F.length:Int))=true:=aG ul;rw[rG hx2] at hw
     case' inr.inr.inl=>
       have hib:gx F u=false:=by rw[hi,h1,hw,h2];rfl
       rw[h1] at q1;rw[h2] at q2;obtain⟨x2,hx2⟩:∃x,F[u.p]? = some x:=⟨_,ax hlu⟩;obtain⟨g2,o2,c2,z0,z3,z1,z2⟩:=hz.m.wc hx2;have ul:(u.p:Int)<(F.length:Int):=by omega
       have d2:decide ((u.p:Int)<(F.length:Int))=true:=aG ul;rw[rG hx2] at hw;have HX:=ac (show u=eV F.length (fun s=>if gx F s=true then (if ef F [121] (eh 15 (eB F L) s)=true then (dW F (dY (eh 15 (eB F L) s)),true) else (eh 15 (eB F L) s,false)) else (s,false)) (dW F (eE F 107 (dW F (eK F s)))) by
         rw[←HV.out]
         exact(LC.gon (gW hL) hBu.p (by show (if _ then _ else _)=_;rw[aC (by rw[hib];decide)])).symm)
     case' inr.inr.inr.inl=>
       have hib:gx F u=false:=by rw[hi,h1,hw];rfl
       rw[h1] at q1;obtain⟨x2,hx2⟩:∃x,F[u.p]? = some x:=⟨_,ax hlu⟩;obtain⟨g2,o2,c2,z0,z3,z1,z2⟩:=hz.m.wc hx2;have ul:(u.p:Int)<(F.length:Int):=by omega
       have d2:decide ((u.p:Int)<(F.length:Int))=true:=aG ul;rw[rG hx2] at hw;have HX:=ac (show u=eV F.length (fun s=>if gx F s=true then (if ef F [121] (eh 15 (eB F L) s)=true then (dW F (dY (eh 15 (eB F L) s)),true) else (eh 15 (eB F L) s,false)) else (s,false)) (dW F (eE F 107 (dW F (eK F s)))) by
         rw[←HV.out]
         exact(LC.gon (gW hL) hBu.p (by show (if _ then _ else _)=_;rw[aC (by rw[hib];decide)])).symm)
     case' inr.inr.inr.inr=>
       have hib:gx F u=false:=by rw[hi,h1,sR hlu];rfl
       rw[h1] at q1;obtain⟨A2,c2,z0,z3⟩:=hz.m.fc;have d2:decide ((u.p:Int)<(F.length:Int))=false:=aE (by omega);have HX:=ac (show u=eV F.length (fun s=>if gx F s=true then (if ef F [121] (eh 15 (eB F L) s)=true then (dW F (dY (eh 15 (eB F L) s)),true) else (eh 15 (eB F L) s,false)) else (s,false)) (dW F (eE F 107 (dW F (eK F s)))) by
         rw[←HV.out]
         exact(LC.gon (gW hL) hBu.p (by show (if _ then _ else _)=_;rw[aC (by rw[hib];decide)])).symm)
     all_goals (
       have HQ:=ac (ae q1 q2);clear hz q1 q2 hi;go_wp2_with fail
       go_quiet (first
         | (go_at_call 22;with_reducible exact HQ.out.1 _)
         | (go_at_call 22;with_reducible exact HQ.out.2 _)
         | fail)
       have UQ:=ac (U0.out.drew nq))
     case true.inr.inr.inl|true.inr.inr.inr.inl|true.inr.inr.inr.inr=>
       go_wp2_with (
         (go_at_call 103;with_reducible refine Ny.go UQ (jK hF (hBu.mono (by omega)) 122 (by decide)) fun w6 H6=>?_))
       first|go_end0|refine bn ?_
       exact⟨rfl,by rw[HT.out,←HX.out];exact H6.out⟩
     case' true.inl=>
       have hgi:=oF hL hib;have hB8:=hBu.gd hgi.1;have hq8:q≤(eh 15 (eB F L) u).p:=aA hqu hgi.1.p;have hpl:=hgi.2;have hbp:=hB8.p;have hBi:=hBu.inn 15;have hgt:=fJ (F:=F) (cs:=[40]) (by decide) hBi.p;have hBt:=hBi.gd hgt;have hgw:=gK (F:=F) hBt.p;have hBw:=hBt.gd hgw;have hqw:q≤(eK F (eG F [40] (fG 15 u))).p:=aA hqu (aA hgt.p hgw.p);have HGI:=ac (sV hL hBi.p);have hi5:(fG 15 u).p≤100000:=by show u.p≤_;omega
       have HK:=ac (show eG F [40] (fG 15 u)=dY (fG 15 u) from lT h1);have h1i:ef F [40] (fG 15 u)=true:=h1
       go_wp2_with (first
         | (go_at_call 128;with_reducible refine Ny.go (Ny.cast A2 HK.out) (qT hF (hBt.mono (by omega))) fun a3 A3=>?_)
         | (go_at_call 22;with_reducible refine Ny.inc A1 (hi5) (fw true hF hBi.p [40] (by decide) h1i) fun a2 ga2 da2 ka2 va2 A2=>?_)
         | (go_at_call 21;with_reducible refine Ny.go UQ (kJ hF 15 (by decide) (hBu.mono (by omega))) fun a1 A1=>?_)
         | fail)
     case' true.inr.inl=>
       have hgi:=oF hL hib;have hB8:=hBu.gd hgi.1;have hq8:q≤(eh 15 (eB F L) u).p:=aA hqu hgi.1.p;have hpl:=hgi.2;have hbp:=hB8.p;have hBi:=hBu.inn 15;have hgt:=fJ (F:=F) (cs:=[40]) (by decide) hBi.p;have hBt:=hBi.gd hgt;have hgw:=gK (F:=F) hBt.p;have hBw:=hBt.gd hgw;have hqw:q≤(eK F (eG F [40] (fG 15 u))).p:=aA hqu (aA hgt.p hgw.p);have HGI:=ac (sV hL hBi.p);have hi5:(fG 15 u).p≤100000:=by show u.p≤_;omega
       have HK:=ac (show eG F [40] (fG 15 u)=fG 15 u from oZ h1);have h1i:ef F [40] (fG 15 u)=false:=h1
       go_wp2_with (first
         | (go_at_call 128;with_reducible refine Ny.go (Ny.cast A2 HK.out) (qT hF (hBt.mono (by omega))) fun a3 A3=>?_)
         | (go_at_call 22;with_reducible refine Ny.go A1 (fw false hF hBi.p [40] (by decide) h1i) fun a2 A2=>?_)
         | (go_at_call 21;with_reducible refine Ny.go UQ (kJ hF 15 (by decide) (hBu.mono (by omega))) fun a1 A1=>?_)
         | fail)
     all_goals (
       rename_i wro;go_loopw [] (fun wr=>∃z:Ps,q≤z.p∧Bd F 7 z∧eV F.length (fun s=>if ef F [124] s=true then (eK F (dY s),true) else (s,false)) z=eV F.length (fun s=>if ef F [124] s=true then (eK F (dY s),true) else (s,false)) (eK F (eG F [40] (fG 15 u)))∧Ny g fv F W z wr) (fun wr=>F.length-pOn g wr)
       case atStart=>exact⟨_,hqw,hBw,rfl,A3.out⟩
       case round=>
         obtain⟨z,hqz,hBz,hlz,hz⟩:=hrel;have Z0:=ac hz;have HZ:=ac hlz;have ZP:=ac hz.m.pOn;have hzp:=hBz.p;clear hz hlz
         cases hc:ef F [124] z
         ·have HE:=ac (HZ.out.symm.trans (LC.gon ke hBz.p (t:=z) (by show (if _ then _ else _)=_;rw[aC (by rw[hc];decide)])));have hg5:=fp (F:=F) (c:=41) (by decide) hBz.p;have hB5:=hBz.gd hg5;have hg6:=ej (F:=F) hB5.p;have hB6:=hB5.gd hg6;have hq6:q≤(dW F (eE F 41 z)).p:=aA hqz (aA hg5.p hg6.p)
          cases hd:eN F (dW F (eE F 41 z))
          case' false=>
            have HF:=ac (show eB F L (fG 15 u)=dW F (eE F 41 z) by unfold eB;rw[HE.out];simp only[hd,bp,aH])
          case' true=>
            have HF:=ac (show eB F L (fG 15 u)=eh 2 L (dW F (eE F 41 z)) by unfold eB;rw[HE.out];simp only[hd,bP])
          all_goals (
            cases hy:ef F [121] (eh 15 (eB F L) u)
            case' true=>
              have hltv:=er hy (by decide);have hn8:=hB8.next hltv (by omega);have hg9:=ej (F:=F) hn8.p;have hB9:=hn8.gd hg9;have hq9:q≤(dW F (dY (eh 15 (eB F L) u))).p:=aA hq8 (aA (bW _) hg9.p)
            all_goals (
              go_wp2_with (first
                | (go_at_call 47;with_reducible refine Ny.go N8a (gU hF hn8.p) fun m7 N9=>?_)
                | (go_at_call 22;with_reducible refine Ny.go N8 (fw false hF hB8.p [121] (by decide) hy) fun m6 N8a=>?_)
                | (go_at_call 22;with_reducible refine Ny.inc N8 (by omega) (fw true hF hB8.p [121] (by decide) hy) fun m6 gm6 dm6 km6 vm6 N8a=>?_)
                | (go_at_call 26;with_reducible refine Ny.go (Ny.cast M3 HF.out) (nS hF 15 (eB F L) (by decide) (hBu.mono (by omega)) HGI.out (by omega)) fun m5 N8=>?_)
                | (go_at_call 26;with_reducible refine Ny.go (Ny.cast M4 HF.out) (nS hF 15 (eB F L) (by decide) (hBu.mono (by omega)) HGI.out (by omega)) fun m5 N8=>?_)
                | (go_at_call 24;with_reducible refine Ny.go M3 (Ar HL hq6 (hB6.mono (by omega)) hd) fun m4 M4=>?_)
                | (go_at_call 23;with_reducible refine Ny.go M2 (mO hF _ hB6.p hd) fun m3 M3=>?_)
                | (go_at_call 47;with_reducible refine Ny.go M1 (gU hF hB5.p) fun m2 M2=>?_)
                | (go_at_call 103;with_reducible refine Ny.go Z1 (jK hF (hBz.mono (by omega)) 41 (by decide)) fun m1 M1=>?_)
                | (go_at_call 22;with_reducible refine Ny.go Z0 (fw false hF hBz.p [124] (by decide) hc) fun m0 Z1=>?_)
                | fail))
            ·have hX:eV F.length (fun s=>if gx F s=true then (if ef F [121] (eh 15 (eB F L) s)=true then (dW F (dY (eh 15 (eB F L) s)),true) else (eh 15 (eB F L) s,false)) else (s,false)) (dW F (dY (eh 15 (eB F L) u)))=eV F.length (fun s=>if gx F s=true then (if ef F [121] (eh 15 (eB F L) s)=true then (dW F (dY (eh 15 (eB F L) s)),true) else (eh 15 (eB F L) s,false)) else (s,false)) (dW F (eE F 107 (dW F (eK F s)))):=by
               rw[←HV.out]
               exact(LC.goy (gW hL) hBu.p (by show (if _ then (if _ then _ else _) else _)=_;rw[aB hib,aB hy])).symm
             refine⟨⟨_,true,rfl,hq9,hB9.mono (by omega),by rw[aB rfl];exact hX,N9.out⟩,?_⟩;rw[N9.out.m.pOn,HP.out];have h1:=hg9.p;have h2:(dY (eh 15 (eB F L) u)).p=(eh 15 (eB F L) u).p+1:=rfl
             have:=hB9.p
             omega
            ·have hX:eh 15 (eB F L) u=eV F.length (fun s=>if gx F s=true then (if ef F [121] (eh 15 (eB F L) s)=true then (dW F (dY (eh 15 (eB F L) s)),true) else (eh 15 (eB F L) s,false)) else (s,false)) (dW F (eE F 107 (dW F (eK F s)))):=by
               rw[←HV.out]
               exact(LC.gon (gW hL) hBu.p (by show (if _ then (if _ then _ else _) else _)=_;rw[aB hib,aC (by rw[hy];decide)])).symm
             refine⟨⟨_,false,rfl,hq8,hB8.mono (by omega),by rw[aC (by decide)];exact hX,N8a.out⟩,?_⟩;rw[N8a.out.m.pOn,HP.out]
             have:=hB8.p
             omega)
         ·have hltz:=er hc (by decide);have hnz:=hBz.next hltz (by omega);have hgz:=gK (F:=F) hnz.p;have hy2:=(ke (F:=F) z hBz.p).yy (t:=eK F (dY z)) (by rw[aB hc]);have HE:=ac ((LC.goy ke hBz.p (t:=eK F (dY z)) (by show (if _ then _ else _)=_;rw[aB hc])).symm.trans HZ.out)
          go_wp2_with (first
            | (go_at_call 128;with_reducible refine Ny.go K1 (qT hF (hnz.mono (by omega))) fun k2 K2=>?_)
            | (go_at_call 22;with_reducible refine Ny.inc Z0 (by omega) (fw _ hF hBz.p [124] (by decide) hc) fun k1 gk1 dk1 kk1 vk1 K1=>?_)
            | fail)
          refine⟨⟨_,aA hqz (aM hy2.2),hBz.gd hy2.1,HE.out,K2.out⟩,?_⟩;rw[K2.out.m.pOn,ZP.out]
          have:=hy2.2
          have:=hy2.1.N
          omega)
end
end
end Go.Proofs.YtmclohkaiemnaaaGreatDoor
