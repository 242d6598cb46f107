/- The reference's parser: a call of a method in a walk; what the small methods tell. -/
import Derived.Test.YtcagfamdoaoimaaGreatDoorNf13
set_option linter.unusedVariables false
set_option linter.unusedSimpArgs false
set_option maxRecDepth 100000
set_option maxHeartbeats 8000000
namespace Go.Proofs.YtcagfamdoaoimaaGreatDoor
section
open Go.RowKit
theorem Ny.go {g:Nat} {fv:Value} {F:List Lf} {s t:Ps} {W W1:World} {f:FuncId} {av:Array Value} {r:Value} {Q:Ending→World→Prop} (U:Hid (Ny g fv F W s W1))
    (c:Nk g fv F s W1→Calls Tryz.prog f av W1 fun e w'=>e=.returned r∧Ny g fv F W1 t w') (k:∀w',Hid (Ny g fv F W t w')→Q (.returned r) w'):Calls Tryz.prog f av W1 Q:=
  (c U.out.m).mono (by rintro e w' ⟨rfl,hz⟩;exact k _ (aa (U.out.then hz)))
theorem Ny.inc {g:Nat} {fv:Value} {F:List Lf} {s t:Ps} {W W1:World} {f:FuncId} {av:Array Value} {r:Value} {Q:Ending→World→Prop} (U:Hid (Ny g fv F W s W1)) (ht:t.p≤100000)
    (c:Nk g fv F s W1→Calls Tryz.prog f av W1 fun e w'=>e=.returned r∧Ny g fv F W1 t w') (k:∀w',g<w'.heap.size→w'.cell? ⟨g,3,none⟩=some (.int .i64 (t.p:Int))→w'.frozen? ⟨g,3,none⟩=false→IntKind.i64.wrap ((t.p:Int)+1)=(t.p:Int)+1 →
      Hid (Ny g fv F W (dL t) (w'.setCell ⟨g,3,none⟩ (.int .i64 ((t.p:Int)+1))))→Q (.returned r) w'):Calls Tryz.prog f av W1 Q:=
  (c U.out.m).mono (by
    rintro e w' ⟨rfl,hz⟩;obtain⟨⟨_,_,d3,_,_⟩,_,e3,_,_⟩:=hz.m.cells;exact k _ hz.m.lt d3 e3 (aV _ (by omega)) (aa ((U.out.then hz).setP (t.p+1))))
theorem jt (F:List Lf) (c:UInt8) (s:Ps):dO F [c] s=(sg F s.p==c):=by
  unfold dO;rw[List.contains_cons];simp
section
variable {g:Nat} {fv:Value} {F:List Lf} {s:Ps} {W:World} (b:Bool) (hF:FB F)
include hF
theorem fi (hs:s.p≤F.length) (cs:List UInt8) (hcs:(cs.contains 0||decide (1000<cs.length))=false) (hb:dO F cs s=b) (h:Nk g fv F s W) :
    Calls Tryz.prog 37 #[.pointer (some ⟨g,0,none⟩),.string ⟨cs.toArray⟩] W fun e w'=>e=.returned (.bool b)∧Ny g fv F W s w':=by
  rw[Bool.or_eq_false_iff] at hcs;rw[←hb]
  exact(FY hF h hs cs hcs.1 (by have:=of_decide_eq_false hcs.2;omega)).mono fun e w' ⟨h1,n,h2⟩=>⟨h1,by rw[h2];exact(Ny.start h).drew n⟩
omit hF in
theorem Nk.drews (h:Nk g fv F s W) (n:Nat):Nk g fv F s (W.drewN n):=((Ny.start h).drew n).m
theorem qG (hs:s.p≤F.length) (cs:List UInt8) (hcs:(cs.contains 0||decide (1000<cs.length))=false) (h:Nk g fv F s W) (n:Nat) :
    Calls Tryz.prog 37 #[.pointer (some ⟨g,0,none⟩),.string ⟨cs.toArray⟩] (W.drewN n) fun e w'=>e=.returned (.bool (dO F cs s))∧∃m,w'=W.drewN m:=by
  rw[Bool.or_eq_false_iff] at hcs
  exact(FY hF (h.drews n) hs cs hcs.1 (by have:=of_decide_eq_false hcs.2;omega)).mono fun e w' ⟨h1,k,h2⟩=>⟨h1,n+k,by rw[h2,World.drewN_drewN]⟩
theorem EN (hs:s.p≤F.length) (h:Nk g fv F s W) :
    Calls Tryz.prog 110 #[.pointer (some ⟨g,0,none⟩)] W fun e w'=>e=.returned (.bool (eO F s))∧∃n,w'=W.drewN n:=by
  have hn:=hF.n;obtain⟨⟨c0,c1,c3,c4,c5⟩,_⟩:=h.cells;have hsl:=qe F;have v1:IntKind.i64.wrap ((s.p:Int)+1)=((s.p+1:Nat):Int):=by rw[aV _ (by omega)];omega
  have hr:eO F s=(dO F [60] s||dO F [35] s&&sg F (s.p+1)==60):=by unfold eO;rw[jt,jt]
  have q1:=qG hF hs [60] (by decide) h;have q2:=qG hF hs [35] (by decide) h;rw[hr];have hlt:dO F [35] s=true→s.p<F.length:=fun h=>ek h (by decide)
  have hT:∀i,i<F.length→(tj F)[i]? = some (sg F i):=fun i hi=>vZ hi
  have hnil:¬s.p+1<F.length→sg F (s.p+1)=0:=fun h=>by unfold sg;rw[cx (by omega)]
  generalize dO F [60] s=b1 at *;generalize dO F [35] s=b2 at *;obtain⟨T,hTe⟩:∃T,T=tj F:=⟨_,rfl⟩;rw[←hTe] at c1 hsl hT;obtain⟨i,hi⟩:∃i,i=s.p+1:=⟨_,rfl⟩;rw[←hi] at v1 hnil ⊢;have HQ:=aa (ac q1 q2);clear q1 q2 hr hTe h c0 c4 c5
  cases b1
  case' true=>
    clear hT hnil hlt hi
  case' false=>
    cases b2
    case' false=>
      clear hT hnil hlt hi
    case' true=>
      have u1:=hlt rfl;have u0:(0:Int)≤(i:Int):=by omega
      by_cases hi2:i<F.length
      case' pos=>
        have k1:=hT i hi2;obtain⟨c,hc⟩:∃c,c=sg F i:=⟨_,rfl⟩;rw[←hc] at k1 ⊢;obtain⟨g1,g2⟩:=aC.1 k1;have g3:(ByteArray.mk T.toArray)[i]'(show i<T.length from g1)=c:=g2;have k2:((c.toNat:Int)==60)=(c==60):=jB c 60;obtain⟨bb,hbb⟩:∃bb,bb=(c==60):=⟨_,rfl⟩;rw[←hbb] at k2 ⊢;have t2:decide ((i:Int)<(T.length:Int))=true:=aJ (by omega);have t3:decide (i<T.length)=true:=aJ g1;clear hT hnil hlt hi k1 g2 hc hbb
      case' neg=>
        rw[hnil hi2];have t2:decide ((i:Int)<(T.length:Int))=false:=aU (by omega);have t3:decide (i<T.length)=false:=aU (by omega);clear hT hnil hlt hi
  all_goals (
    go_enter Tryz.func110,Tryz.ntmps110;go_wp2
    go_quiet (first
      | (go_at_call 37;with_reducible exact HQ.out.1 _)
      | (go_at_call 37;with_reducible exact HQ.out.2 _))
    go_wp2;go_ret;exact⟨rfl,_,rfl⟩)
end
theorem Nk.fc {g:Nat} {fv:Value} {F:List Lf} {s:Ps} {W:World} (h:Nk g fv F s W):∃A c,W.cell? ⟨g,0,none⟩=some (.slice A F.length c)∧W.cell? ⟨g,3,none⟩=some (.int .i64 (s.p:Int)):=by
  obtain⟨⟨c0,_,c3,_,_⟩,_⟩:=h.cells;obtain⟨A,c,rfl⟩:=h.f.formm;exact⟨A,c,c0,c3⟩
theorem Nk.wc {g:Nat} {fv:Value} {F:List Lf} {s:Ps} {W:World} (h:Nk g fv F s W) {x:Lf} (hx:F[s.p]? = some x):∃g1 o1 c,W.cell? ⟨g,0,none⟩=some (.slice (some ⟨g1,o1,none⟩) F.length c)∧W.cell? ⟨g,3,none⟩=some (.int .i64 (s.p:Int)) ∧
    W.cell? ⟨g1,o1+s.p*4,none⟩=some (.int .i64 x.kd)∧W.cell? ⟨g1,o1+s.p*4+1,none⟩=some (.string ⟨x.tx.toArray⟩):=by
  obtain⟨⟨c0,_,c3,_,_⟩,_⟩:=h.cells;obtain⟨A,c,rfl⟩:=h.f.formm;obtain⟨g1,o1,rfl,y0,y1,_,_⟩:=jn h.f hx rfl;exact⟨g1,o1,c,c0,c3,y0,y1⟩
section
variable {g:Nat} {fv:Value} {F:List Lf} {s:Ps} {W:World} (hF:FB F)
include hF
theorem nG (b:Bool) (hs:s.p≤F.length) (hb:eO F s=b) (h:Nk g fv F s W) :
    Calls Tryz.prog 110 #[.pointer (some ⟨g,0,none⟩)] W fun e w'=>e=.returned (.bool b)∧Ny g fv F W s w':=by
  rw[←hb]
  exact(EN hF hs h).mono fun e w' ⟨h1,n,h2⟩=>⟨h1,by rw[h2];exact(Ny.start h).drew n⟩
theorem wY (b:Bool) (hs:s.p≤F.length) (hb:gx F s=b) (h:Nk g fv F s W) :
    Calls Tryz.prog 111 #[.pointer (some ⟨g,0,none⟩)] W fun e w'=>e=.returned (.bool b)∧Ny g fv F W s w':=by
  rw[←hb];unfold gx;have H0:=aa (Ny.start h);clear h hb;obtain⟨d,hd⟩:∃d,d=decide (s.deep<200):=⟨_,rfl⟩;have hd2:decide ((s.deep:Int)<200)=d:=by rw[hd];exact decide_eq_decide.2 (by omega)
  obtain⟨z,hz⟩:∃z:Int,z=(s.deep:Int):=⟨_,rfl⟩;rw[←hz] at hd2;rw[←hd]
  cases ha:dO F [123,40,105,119,114,99] s;all_goals (
    have HA:=aa (ac ha hz);clear ha hd hz;go_enter Tryz.func111,Tryz.ntmps111;go_wp2_with (
      (go_at_call 37;with_reducible refine Ny.go H0 (fi _ hF hs [123,40,105,119,114,99] (by decide) HA.out.1) fun w1 H1=>?_
       obtain⟨⟨_,_,_,_,d5⟩,_⟩:=H1.out.m.cells;rw[←HA.out.2] at d5))
    go_ret;exact⟨by simp[Bool.and_comm],H1.out⟩)
theorem Cy (b:Bool) (hs:s.p≤F.length) (hb:oZ F s=b) (h:Nk g fv F s W) :
    Calls Tryz.prog 65 #[.pointer (some ⟨g,0,none⟩)] W fun e w'=>e=.returned (.bool b)∧Ny g fv F W s w':=by
  rw[←hb];unfold oZ;rw[←jt];have H0:=aa (Ny.start h);clear h hb
  cases ha:dO F [120] s
  case' false=>
    cases hr:eO F s
    case' false=>cases hc:gx F s
  all_goals (
    go_enter Tryz.func65,Tryz.ntmps65
    go_wp2_with (first
      | (go_at_call 37;with_reducible refine Ny.go H0 (fi _ hF hs [120] (by decide) ha) fun w1 H1=>?_)
      | (go_at_call 110;with_reducible refine Ny.go H1 (nG hF _ hs hr) fun w2 H2=>?_)
      | (go_at_call 111;with_reducible refine Ny.go H2 (wY hF _ hs hc) fun w3 H3=>?_)
      | fail)
    go_ret;exact⟨rfl,by first|exact H3.out|exact H2.out|exact H1.out⟩)
theorem mW (b:Bool) (hs:s.p≤F.length) (hb:fQ F s=b) (h:Nk g fv F s W) :
    Calls Tryz.prog 38 #[.pointer (some ⟨g,0,none⟩)] W fun e w'=>e=.returned (.bool b)∧Ny g fv F W s w':=by
  rw[←hb];unfold fQ;rw[←jt];have H0:=aa (Ny.start h);clear h hb
  cases ha:dO F [33] s
  case' false=>cases hr:oZ F s
  all_goals (
    go_enter Tryz.func38,Tryz.ntmps38
    go_wp2_with (first
      | (go_at_call 37;with_reducible refine Ny.go H0 (fi _ hF hs [33] (by decide) ha) fun w1 H1=>?_)
      | (go_at_call 65;with_reducible refine Ny.go H1 (Cy hF _ hs hr) fun w2 H2=>?_)
      | fail)
    go_ret;exact⟨rfl,by first|exact H2.out|exact H1.out⟩)
theorem nP (hB:Bd F 100 s) (h:Nk g fv F s W):Calls Tryz.prog 113 #[.pointer (some ⟨g,0,none⟩)] W fun e w'=>e=.returned (.tuple #[])∧Ny g fv F W (eR s) w':=Ls hF h hB
theorem qE {k:Nat} (hk:(decide (1≤k)&&decide (k≤17) && !gN k)=true) (hB:Bd F 100 s) (hs:s.p<F.length) (h:Nk g fv F s W) :
    Calls Tryz.prog 40 #[.pointer (some ⟨g,0,none⟩),.int .i64 (k:Int)] W fun e w'=>e=.returned (.tuple #[])∧Ny g fv F W (eC k s) w':=by
  simp only[aX,cy,Bool.not_eq_true'] at hk;exact MU k hk.1 hk.2 hF h hB hs
theorem jA (hB:Bd F 100 s) (c:UInt8) (hc:c≠0) (h:Nk g fv F s W) :
    Calls Tryz.prog 177 #[.pointer (some ⟨g,0,none⟩),.string ⟨#[c]⟩] W fun e w'=>e=.returned (.tuple #[])∧Ny g fv F W (eE F c s) w':=by
  have hn:=hF.n;have hp:=hB.p;have hc0:([c].contains 0||decide (1000<[c].length))=false:=by simp;exact fun e=>hc e.symm
  have H0:=aa (Ny.start h);clear h;unfold eE
  cases hb:dO F [c] s
  case' false=>
    rw[aB (by decide)]
  case' true=>
    rw[aE rfl]
  all_goals (
    go_enter Tryz.func177,Tryz.ntmps177)
  case false=>
    go_wp2_with (first
      | (go_at_call 37;with_reducible refine Ny.go H0 (fi _ hF hp [c] hc0 hb) fun w1 H1=>?_)
      | (go_at_call 113;with_reducible refine Ny.go H1 (nP hF hB) fun w2 H2=>?_)
      | fail)
    first|go_end0|refine az (aI rfl _ _ _) rfl ?_
    exact⟨rfl,H2.out⟩
  case true=>
    go_wp2_with (
      (go_at_call 37;with_reducible refine Ny.inc H0 (by omega) (fi _ hF hp [c] hc0 hb) fun w1 hg1 d1 e1 v1 H1=>?_))
    first|go_end0|refine az (aI rfl _ _ _) rfl ?_
    exact⟨rfl,H1.out⟩
theorem rp (hB:Bd F 100 s) (h:Nk g fv F s W) :
    Calls Tryz.prog 211 #[.pointer (some ⟨g,0,none⟩)] W fun e w'=>e=.returned (.tuple #[])∧Ny g fv F W (eD F s) w':=by
  have hn:=hF.n;have hp:=hB.p;have u2:(0:Int)≤(s.p:Int):=by omega
  have H0:=aa (Ny.start h);by_cases hlt:s.p<F.length
  case' pos=>
    obtain⟨x,hx⟩:∃x,F[s.p]? = some x:=⟨_,ax hlt⟩;obtain⟨g1,o1,c,y0,y3,y1,_⟩:=h.wc hx;have hw:i4 F s.p=(x.kd==6):=by unfold i4;rw[hx]
    have u1:(s.p:Int)<(F.length:Int):=by omega
    have d1:decide ((s.p:Int)<(F.length:Int))=true:=aJ u1;clear h hx
    cases hk:(x.kd==6)
    case' true=>
      have e:eD F s=eC 7 s:=by unfold eD;rw[hw,hk];rfl
    case' false=>
      have e:eD F s=eR s:=by unfold eD;rw[hw,hk];rfl
  case' neg=>
    obtain⟨A,c,y0,y3⟩:=h.fc;have d1:decide ((s.p:Int)<(F.length:Int))=false:=aU (by omega);have e:eD F s=eR s:=by unfold eD i4;rw[cx (by omega)];rfl
    clear h
  all_goals (
    rw[e];clear e;go_enter Tryz.func211,Tryz.ntmps211;go_wp2;go_quiet (fail);have H1:=aa (H0.out.drew nq)
    go_wp2_with (first
      | (go_at_call 40;with_reducible refine Ny.go H1 (qE hF (k:=7) (by decide) hB hlt) fun w2 H2=>?_)
      | (go_at_call 113;with_reducible refine Ny.go H1 (nP hF hB) fun w2 H2=>?_)
      | fail)
    first|go_end0|refine az (aI rfl _ _ _) rfl ?_
    exact⟨rfl,H2.out⟩)
def pOn (g:Nat) (w:World):Nat:=match w.cell? ⟨g,3,none⟩ with|some (.int _ p)=>p.toNat|_=>0
omit hF in
theorem Nk.pOn (h:Nk g fv F s W):Go.Proofs.YtcagfamdoaoimaaGreatDoor.pOn g W=s.p:=by
  unfold Go.Proofs.YtcagfamdoaoimaaGreatDoor.pOn;rw[h.cells.1.2.2.1];exact dk _
def Ku (F:List Lf) (s:Ps):Nat:=(dJ F s).p-s.p
omit hF in
theorem Ks (hs:s.p≤F.length) (h:dO F [110] s=true):((Ku F s:Int)==0)=false:=by
  have h1:=ek h (by decide);have h2:=LC.eq (lP (F:=F)) s hs;simp only[h,bW] at h2;have h3:=(dZ (F:=F) (s:=dL s) h1).p;have h4:dJ F s=dJ F (dL s):=h2;refine aL ?_;unfold Ku;rw[h4]
  have:s.p+1≤(dJ F (dL s)).p:=h3
  omega
omit hF in
theorem Kt (hs:s.p≤F.length) (h:dO F [110] s=false):((Ku F s:Int)==0)=true∧dJ F s=s:=by
  have h2:=LC.eq (lP (F:=F)) s hs;simp only[h,br,aK] at h2;have h4:dJ F s=s:=h2;refine⟨?_,h4⟩;unfold Ku;rw[h4,dc];rfl
theorem gC (hs:s.p≤F.length) (h:Nk g fv F s W) :
    Calls Tryz.prog 67 #[.pointer (some ⟨g,0,none⟩)] W fun e w'=>e=.returned (.int .i64 (Ku F s:Int))∧Ny g fv F W (dJ F s) w':=by
  have hn:=hF.n;have H0:=aa (Ny.start h);have hm:(Ku F s:Int)=((dJ F s).p:Int)-(s.p:Int):=by
    have:=(dZ (F:=F) hs).p
    unfold Ku;omega
  have HM:=aa hm;clear h hm;go_enter Tryz.func67,Tryz.ntmps67;go_wp2_with fail;go_loopw [3] (fun n wr=>∃u:Ps,u.p≤F.length∧s.p≤u.p∧n=.int .i64 ((u.p-s.p:Nat):Int)∧dJ F u=dJ F s∧Ny g fv F W u wr) (fun n wr=>F.length-pOn g wr)
  case atStart=>exact⟨s,hs,an _,by rw[dc];rfl,rfl,H0.out⟩
  case round=>
    obtain⟨u,hu,hsu,rfl,hlu,hz⟩:=hrel;have U0:=aa hz;have HU:=aa (ac hlu hz.m.pOn);clear hlu hz;obtain⟨k,hk⟩:∃k,k=u.p-s.p:=⟨_,rfl⟩;rw[←hk];have hk9:k≤900:=by omega
    have HK:=aa hk;clear hk;have hl:=LC.eq (lP (F:=F)) u hu
    cases hb:dO F [110] u
    ·simp only[hb,br,aK] at hl;have HL:=aa hl;clear hl;go_wp2_with (
       (go_at_call 37;with_reducible refine Ny.go U0 (fi _ hF hu [110] (by decide) hb) fun w1 H1=>?_))
     go_ret;have e:dJ F s=u:=HU.out.1.symm.trans HL.out;have h9:(Ku F s:Int)=(k:Int):=by
       rw[HM.out,e]
       have:=HK.out
       omega
     exact⟨by rw[h9];rfl,by rw[e];exact H1.out⟩
    ·simp only[hb,bW] at hl;have HL:=aa hl;clear hl;have hlt:=ek hb (by decide);go_wp2_with (
       (go_at_call 37;with_reducible refine Ny.inc U0 (by omega) (fi _ hF hu [110] (by decide) hb) fun w1 hg1 d1 e1 v1 H1=>?_))
     refine⟨⟨dL u,hlt,by show s.p≤u.p+1;omega,by show _=Value.int .i64 (((u.p+1)-s.p:Nat):Int);rw[show u.p+1-s.p=k+1 by rw[HK.out];omega];rfl,by rw[←HU.out.1];exact HL.out.symm,H1.out⟩,?_⟩;rw[H1.out.m.pOn,HU.out.2];show F.length-(u.p+1)<F.length-u.p;omega
end
theorem Ny.nxt {g:Nat} {fv:Value} {F:List Lf} {s:Ps} {W W1:World} (U:Hid (Ny g fv F W s W1)) (z:Int) (hz:z=(s.p:Int)+1):Hid (Ny g fv F W (dL s) (W1.setCell ⟨g,3,none⟩ (.int .i64 z))):=by
  subst hz;exact U.out.setP (s.p+1)
theorem Ny.inc3 {g:Nat} {fv:Value} {F:List Lf} {s:Ps} {W W1:World} (U:Hid (Ny g fv F W s W1)):g<W1.heap.size∧W1.cell? ⟨g,3,none⟩=some (.int .i64 (s.p:Int))∧W1.frozen? ⟨g,3,none⟩=false:=by
  obtain⟨⟨_,_,d3,_,_⟩,_,e3,_,_⟩:=U.out.m.cells;exact⟨U.out.m.lt,d3,e3⟩
theorem Ny.cast {g:Nat} {fv:Value} {F:List Lf} {s t:Ps} {W W1:World} (U:Hid (Ny g fv F W s W1)) (e:t=s):Hid (Ny g fv F W t W1):=by rw[e];exact U
theorem Cp (k:Nat) (s:Ps):(fB k s).l.length=s.l.length+1:=by show (s.l++[_]).length=_;simp
section
variable {g:Nat} {fv:Value} {F:List Lf} {s:Ps} {W:World} (hF:FB F)
include hF
theorem kV (k:Nat) (hk:(decide (k≤18) && !gN k)=true) (hB:Bd F 100 s) (h:Nk g fv F s W) :
    Calls Tryz.prog 36 #[.pointer (some ⟨g,0,none⟩),.int .i64 (k:Int)] W fun e w'=>e=.returned (.int .i64 s.up)∧Ny g fv F W (fB k s) w':=by
  simp only[aX,cy,Bool.not_eq_true'] at hk;exact xe k hk.2 h (hB.l5 hF (by omega)) hk.1 (by have:=hB.d;omega)
theorem od (k:Nat) (f:Ps→Ps) (hk:gN k=false) (hB:Bd F 100 s) {B:Nat} (hG:Gd F.length B (fB k s) (f (fB k s))) (hb:B≤1000) (h:Nk g fv F (f (fB k s)) W) :
    Calls Tryz.prog 41 #[.pointer (some ⟨g,0,none⟩),.int .i64 s.up] W fun e w'=>e=.returned (.tuple #[])∧Ny g fv F W (dN k f s) w':=by
  have h1:=hG.b;rw[Cp] at h1
  have:=hB.l5 hF (by omega)
  have:=hG.N
  have:=hF.n
  exact GR k f hk hG h (by omega) (by have:=hB.d;omega)
theorem zD (k:Nat) (hk:(decide (k≤18)&&gN k)=true) (hB:Bd F 100 s) (h:Nk g fv F s W) :
    Calls Tryz.prog 36 #[.pointer (some ⟨g,0,none⟩),.int .i64 (k:Int)] W fun e w'=>e=.returned (.int .i64 s.up)∧Ny g fv F W (fB k {s with deep:=s.deep+1}) w':=by
  simp only[aX,cy] at hk;exact Kd k hk.2 h (hB.l5 hF (by omega)) hk.1 (by have:=hB.d;omega)
theorem GM (k:Nat) (f:Ps→Ps) (hk:gN k=true) (hB:Bd F 100 s) {B:Nat} (hG:Gd F.length B (fB k {s with deep:=s.deep+1}) (f (fB k {s with deep:=s.deep+1}))) (hb:B≤1000) (h:Nk g fv F (f (fB k {s with deep:=s.deep+1})) W) :
    Calls Tryz.prog 41 #[.pointer (some ⟨g,0,none⟩),.int .i64 s.up] W fun e w'=>e=.returned (.tuple #[])∧Ny g fv F W (kw k f s) w':=by
  have h1:=hG.b;rw[Cp] at h1;have h2:({s with deep:=s.deep+1}:Ps).l.length=s.l.length:=rfl
  have:=hB.l5 hF (by omega)
  have:=hG.N
  have:=hF.n
  exact Nl k f hk hG h (by omega) (by have:=hB.d;omega)
theorem tv (hB:Bd F 99 s) (hb:eO F s=true) (h:Nk g fv F s W) :
    Calls Tryz.prog 178 #[.pointer (some ⟨g,0,none⟩)] W fun e w'=>e=.returned (.tuple #[])∧Ny g fv F W (fK F s) w':=by
  have hn:=hF.n;have hp:=hB.p;have hi:=hB.inn 8;have hi5:(fB 8 s).p≤100000:=by show s.p≤_;omega
  have hw1:=gD (F:=F) (cs:=[35]) (by decide) hi.p;have hw2:=gD (F:=F) (cs:=[60]) (by decide) hw1.N;have hw3:=ij (F:=F) hw2.N;have hG:=(hw1.trans hw2).trans hw3;have H0:=aa (Ny.start h);clear h
  cases ha:dO F [35] (fB 8 s)
  ·have e1:eB F [35] (fB 8 s)=fB 8 s:=pD ha;have e2:eB F [60] (fB 8 s)=dL (fB 8 s):=lW (by
     rw[jt] at ha ⊢;have h0:sg F (fB 8 s).p=sg F s.p:=rfl;rw[h0] at ha ⊢;unfold eO at hb;rw[ha,cN,Bool.or_false] at hb;exact hb)
   obtain⟨f,hf⟩:∃f:Ps→Ps,f=fun s=>eD F (eB F [60] (eB F [35] s)):=⟨_,rfl⟩
   have hx:fK F s=dN 8 f s:=by rw[hf];rfl
   have hB2:Bd F 100 (dL (fB 8 s)):=⟨by show s.p+1≤_;exact tw hb,by have:=hi.l;show _≤46*(s.p+1)+100;have:(dL (fB 8 s)).l.length=(fB 8 s).l.length:=rfl;have:(fB 8 s).p=s.p:=rfl;omega,hB.d⟩;rw[e1,e2] at hG;rw[hx];have HE:=aa (show f (fB 8 s)=eD F (dL (fB 8 s)) by rw[hf];simp only;rw[e1,e2]);have HG:=aa (show Gd F.length _ (fB 8 s) (f (fB 8 s)) by rw[HE.out];exact hG);clear hw1 hw2 hw3 e1 e2 hx hG hf;go_enter Tryz.func178,Tryz.ntmps178
   go_wp2_with (first
     | (go_at_call 36;with_reducible refine Ny.go H0 (kV hF 8 (by decide) (hB.mono (by omega))) fun w1 H1=>?_)
     | (go_at_call 37;with_reducible refine Ny.inc H1 hi5 (fi _ hF hi.p [35] (by decide) ha) fun w2 hg2 d2 k2 v2 H2=>?_)
     | (go_at_call 211;with_reducible refine Ny.go H2 (rp hF hB2) fun w3 H3=>?_)
     | (go_at_call 41;with_reducible refine Ny.go (Ny.cast H3 HE.out) (od hF 8 f (by decide) (hB.mono (by omega)) HG.out (by omega)) fun w4 H4=>?_)
     | fail)
   first|go_end0|refine az (aI rfl _ _ _) rfl ?_
   exact⟨rfl,H4.out⟩
  ·have hlt:s.p<F.length:=tw hb;have e1:eB F [35] (fB 8 s)=dL (fB 8 s):=lW ha;have h60:sg F (s.p+1)=60:=by
     rw[jt] at ha;have h0:sg F (fB 8 s).p=sg F s.p:=rfl;rw[h0] at ha;unfold eO at hb;rw[ha,cJ] at hb;have h1:sg F s.p=35:=by simpa using ha
     rw[h1] at hb;simpa using hb
   have hlt2:s.p+1<F.length:=tm (by rw[h60];decide);have e2:eB F [60] (dL (fB 8 s))=dL (dL (fB 8 s)):=lW (by rw[jt];show (sg F (s.p+1)==60)=true;rw[h60];rfl);obtain⟨f,hf⟩:∃f:Ps→Ps,f=fun s=>eD F (eB F [60] (eB F [35] s)):=⟨_,rfl⟩
   have hx:fK F s=dN 8 f s:=by rw[hf];rfl
   have hB2:Bd F 100 (dL (dL (fB 8 s))):=⟨by show s.p+1+1≤_;omega,by have:=hi.l;show _≤46*(s.p+1+1)+100;have:(dL (dL (fB 8 s))).l.length=(fB 8 s).l.length:=rfl;have:(fB 8 s).p=s.p:=rfl;omega,hB.d⟩;rw[e1,e2] at hG;rw[hx];have HE:=aa (show f (fB 8 s)=eD F (dL (dL (fB 8 s))) by rw[hf];simp only;rw[e1,e2]);have v3:IntKind.i64.wrap ((s.p:Int)+1+1)=(s.p:Int)+1+1:=aV _ (by omega);have HG:=aa (show Gd F.length _ (fB 8 s) (f (fB 8 s)) by rw[HE.out];exact hG);clear hw1 hw2 hw3 e1 e2 hx hG hf;go_enter Tryz.func178,Tryz.ntmps178
   go_wp2_with (first
     | (go_at_call 36;with_reducible refine Ny.go H0 (kV hF 8 (by decide) (hB.mono (by omega))) fun w1 H1=>?_)
     | (go_at_call 37;with_reducible refine Ny.inc H1 hi5 (fi _ hF hi.p [35] (by decide) ha) fun w2 hg2 d2 k2 v2 H2=>?_
        have H2':=Ny.nxt H2 ((s.p:Int)+1+1) rfl)
     | (go_at_call 211;with_reducible refine Ny.go H2' (rp hF hB2) fun w3 H3=>?_)
     | (go_at_call 41;with_reducible refine Ny.go (Ny.cast H3 HE.out) (od hF 8 f (by decide) (hB.mono (by omega)) HG.out (by omega)) fun w4 H4=>?_)
     | fail)
   first|go_end0|refine az (aI rfl _ _ _) rfl ?_
   exact⟨rfl,H4.out⟩
end
def sB (g:Nat) (fv:Value) (F:List Lf) (L:Ps→Ps) (q:Nat):Prop:=∀(s:Ps) (W:World),q≤s.p→Bd F 19 s→fQ F s=true→Nk g fv F s W →
  Calls Tryz.prog 39 #[.pointer (some ⟨g,0,none⟩)] W fun e w'=>e=.returned (.tuple #[])∧Ny g fv F W (dN 2 L s) w'
theorem AW {g:Nat} {fv:Value} {F:List Lf} {L:Ps→Ps} {q:Nat} {s:Ps} {W:World} (HL:sB g fv F L q) (hq:q≤s.p) (hB:Bd F 19 s) (hb:fQ F s=true) (h:Nk g fv F s W) :
    Calls Tryz.prog 39 #[.pointer (some ⟨g,0,none⟩)] W fun e w'=>e=.returned (.tuple #[])∧Ny g fv F W (dN 2 L s) w':=HL s W hq hB hb h
section
variable {g:Nat} {fv:Value} {F:List Lf} {L:Ps→Ps} {q:Nat} {s:Ps} {W:World} (hF:FB F) (hL:GL F L) (HL:sB g fv F L q)
include hF HL
theorem nm (hq:q≤s.p) (hB:Bd F 14 s) (h:Nk g fv F s W) :
    Calls Tryz.prog 207 #[.pointer (some ⟨g,0,none⟩)] W fun e w'=>e=.returned (.tuple #[])∧Ny g fv F W (eN F L s) w':=by
  have hp:=hB.p;have hg1:=dZ (F:=F) hp;have hB1:=hB.gd hg1;have hq1:q≤(dJ F s).p:=aA hq hg1.p;have H0:=aa (Ny.start h);clear h;unfold eN
  cases hb:fQ F (dJ F s)
  case' false=>rw[aB (by decide)]
  case' true=>rw[aE rfl]
  all_goals (
    go_enter Tryz.func207,Tryz.ntmps207
    go_wp2_with (first
      | (go_at_call 67;with_reducible refine Ny.go H0 (gC hF hp) fun w1 H1=>?_)
      | (go_at_call 38;with_reducible refine Ny.go H1 (mW hF _ hB1.p hb) fun w2 H2=>?_)
      | (go_at_call 39;with_reducible refine Ny.go H2 (AW HL hq1 (hB1.mono (by omega)) hb) fun w3 H3=>?_)
      | (go_at_call 113;with_reducible refine Ny.go H2 (nP hF (hB1.mono (by omega))) fun w3 H3=>?_)
      | fail)
    first|go_end0|refine az (aI rfl _ _ _) rfl ?_
    exact⟨rfl,H3.out⟩)
include hL
theorem rQ (hq:q≤s.p) (hB:Bd F 9 s) (h:Nk g fv F s W) :
    Calls Tryz.prog 208 #[.pointer (some ⟨g,0,none⟩)] W fun e w'=>e=.returned (.tuple #[])∧Ny g fv F W (xu F L s) w':=by
  have hg1:=fO (F:=F) (c:=100) (by decide) hB.p;have hB1:=hB.gd hg1;have hq1:=aA hq hg1.p;have hB2:=hB1.gd (fT hL hB1.p);have H0:=aa (Ny.start h);clear h;unfold xu;go_enter Tryz.func208,Tryz.ntmps208
  go_wp2_with (first
    | (go_at_call 177;with_reducible refine Ny.go H2 (jA hF (hB2.mono (by omega)) 103 (by decide)) fun w3 H3=>?_)
    | (go_at_call 207;with_reducible refine Ny.go H1 (nm hF HL hq1 (hB1.mono (by omega))) fun w2 H2=>?_)
    | (go_at_call 177;with_reducible refine Ny.go H0 (jA hF (hB.mono (by omega)) 100 (by decide)) fun w1 H1=>?_)
    | fail)
  first|go_end0|refine az (aI rfl _ _ _) rfl ?_
  exact⟨rfl,H3.out⟩
end
theorem wJ (l:List UInt8) (b:Bool) (hb:je l=b) (hl:l.length≤100000) (W:World) (n:Nat):Calls Tryz.prog 158 #[.string ⟨l.toArray⟩] (W.drewN n) fun e w'=>e=.returned (.bool b)∧∃m,w'=W.drewN m:=
  (qO l _ hl).mono fun e w' ⟨h1,h2⟩=>⟨by rw[h1,Ge,hb],n,h2.symm⟩
theorem LC.yy {N B:Nat} {s t:Ps} {r:Ps×Bool} (h:LC N B s r) (e:r=(t,true)):Gd N 0 s t∧s.p<t.p:=by rw[e] at h;exact h.1 rfl
theorem LC.goy {N B:Nat} {c:Ps→Ps×Bool} {s t:Ps} (h:∀s,s.p≤N→LC N B s (c s)) (hs:s.p≤N) (e:c s=(t,true)):eQ N c s=eQ N c t:=by
  have h1:=LC.eq h s hs;simp only[e,bW] at h1;exact h1
theorem LC.gon {N B:Nat} {c:Ps→Ps×Bool} {s t:Ps} (h:∀s,s.p≤N→LC N B s (c s)) (hs:s.p≤N) (e:c s=(t,false)):eQ N c s=t:=by
  have h1:=LC.eq h s hs;simp only[e,br,aK] at h1;exact h1
theorem rJ {F:List Lf} {i:Nat} {x:Lf} (hx:F[i]? = some x):i4 F i=(x.kd==6):=by unfold i4;rw[hx]
theorem D6 {F:List Lf} {i:Nat} {x:Lf} (hx:F[i]? = some x):tx F i=x.tx:=by unfold tx;rw[hx]
theorem sR {F:List Lf} {i:Nat} (h:¬i<F.length):i4 F i=false:=by unfold i4;rw[cx (by omega)]
section
variable {g:Nat} {fv:Value} {F:List Lf} {L:Ps→Ps} {q:Nat} {s:Ps} {W:World} (hF:FB F) (hL:GL F L) (HL:sB g fv F L q)
include hF hL HL
theorem Nf (hq:q≤s.p) (hB:Bd F 0 s) (h:Nk g fv F s W) :
    Calls Tryz.prog 209 #[.pointer (some ⟨g,0,none⟩)] W fun e w'=>e=.returned (.tuple #[])∧Ny g fv F W (gu F L s) w':=by
  have hn:=hF.n;have hp:=hB.p;obtain⟨T,hT⟩:∃T,T=gu F L s:=⟨_,rfl⟩;rw[←hT];have H0:=aa (Ny.start h);have us:(0:Int)≤(s.p:Int):=by omega
  have key:∃s1,s1=(if (i4 F s.p&&je (tx F s.p))=true then eC 7 s else eR s):=⟨_,rfl⟩;obtain⟨s1,hs1⟩:=key;have hg1:Gd F.length 1 s s1:=by rw[hs1];exact Gd.ite (fun hc=>(gr (fZ ((aX _ _).mp hc).1)).1) (fun _=>ik hp)
  have hB1:=hB.gd hg1;have hq1:q≤s1.p:=aA hq hg1.p;have hT1:T=xu F L (if dO F [59] s1=true then dJ F (dL s1) else if dO F [107] (dJ F s1)=true then vG F (dJ F s1) else dJ F s1):=by rw[hT,hs1];rfl
  have HG:=aa (ac hg1 hT1);clear hT hT1 hg1;by_cases hlt:s.p<F.length
  case' pos=>
    obtain⟨x,hx⟩:∃x,F[s.p]? = some x:=⟨_,ax hlt⟩;have hxl:=hF.t x (aW hx);rw[rJ hx,D6 hx] at hs1;obtain⟨g1,o1,c,y0,y3,y1,y2⟩:=h.wc hx;have u1:(s.p:Int)<(F.length:Int):=by omega
    have d1:decide ((s.p:Int)<(F.length:Int))=true:=aJ u1;clear h hx
    cases hk:(x.kd==6)
    case' false=>
      rw[hk] at hs1;replace hs1:s1=eR s:=hs1
    case' true=>
      rw[hk] at hs1
      cases hm:je x.tx
      case' false=>
        rw[hm] at hs1;replace hs1:s1=eR s:=hs1;have HN:=aa (wJ x.tx false hm (by omega) W)
      case' true=>
        rw[hm] at hs1;replace hs1:s1=eC 7 s:=hs1;have HN:=aa (wJ x.tx true hm (by omega) W)
      all_goals clear hm
  case' neg=>
    obtain⟨A,c,y0,y3⟩:=h.fc;have d1:decide ((s.p:Int)<(F.length:Int))=false:=aU (by omega);rw[sR hlt] at hs1;replace hs1:s1=eR s:=hs1;clear h
  all_goals (
    have H1':=aa hs1;clear hs1;go_enter Tryz.func209,Tryz.ntmps209;go_wp2_with fail;go_quiet (
      (go_at_call 158;with_reducible exact HN.out _))
    have HQ:=aa (H0.out.drew nq)
    go_upto_region 3 with (first
      | (go_at_call 40;with_reducible refine Ny.go HQ (qE hF (k:=7) (by decide) (hB.mono (by omega)) hlt) fun w1 H1=>?_)
      | (go_at_call 113;with_reducible refine Ny.go HQ (nP hF (hB.mono (by omega))) fun w1 H1=>?_)
      | fail)
    have H1:=Ny.cast H1 H1'.out;try clear HN
    clear H1' HQ H0 d1 y0 y3
    cases ha:dO F [59] s1
    ·have hg2:=dZ (F:=F) hB1.p;have hB2:=hB1.gd hg2;have hq2:q≤(dJ F s1).p:=aA hq1 hg2.p
     cases hk2:dO F [107] (dJ F s1)
     ·have e:T=xu F L (dJ F s1):=by rw[HG.out.2,aB (by rw[ha];decide),aB (by rw[hk2];decide)]
      go_wp2_with (first
        | (go_at_call 208;with_reducible refine Ny.go H4 (rQ hF hL HL hq2 (hB2.mono (by omega))) fun w5 H5=>?_)
        | (go_at_call 37;with_reducible refine Ny.go H3 (fi _ hF hB2.p [107] (by decide) hk2) fun w4 H4=>?_)
        | (go_at_call 67;with_reducible refine Ny.go H2 (gC hF hB1.p) fun w3 H3=>?_)
        | (go_at_call 37;with_reducible refine Ny.go H1 (fi _ hF hB1.p [59] (by decide) ha) fun w2 H2=>?_)
        | fail)
      first|go_end0|refine az (aI rfl _ _ _) rfl ?_
      exact⟨rfl,by rw[e];exact H5.out⟩
     ·have hlt4:=ek hk2 (by decide);have hn4:=hB2.next hlt4 (by omega);have hq4:q≤(dL (dJ F s1)).p:=aA hq2 (bY _);have HT:=aa (show T=xu F L (vG F (dJ F s1)) by rw[HG.out.2,aB (by rw[ha];decide),aE hk2])
      go_wp2_with (first
        | (go_at_call 37;with_reducible refine Ny.inc H3 (by omega) (fi _ hF hB2.p [107] (by decide) hk2) fun w4 gw4 dw4 kw4 vw4 H4=>?_)
        | (go_at_call 67;with_reducible refine Ny.go H2 (gC hF hB1.p) fun w3 H3=>?_)
        | (go_at_call 37;with_reducible refine Ny.go H1 (fi _ hF hB1.p [59] (by decide) ha) fun w2 H2=>?_)
        | fail)
      go_loopw [] (fun wr=>∃u:Ps,q≤u.p∧Bd F 0 u∧iW F u=iW F (dL (dJ F s1))∧Ny g fv F W u wr) (fun wr=>F.length-pOn g wr)
      case atStart=>exact⟨_,hq4,hn4,rfl,H4.out⟩
      case round=>
        obtain⟨u,hqu,hBu,hlu,hz⟩:=hrel;have U0:=aa hz;have HU:=aa hlu;have HP:=aa hz.m.pOn;have uu:(0:Int)≤(u.p:Int):=by omega
        have hup:=hBu.p;clear hlu;by_cases hlu:u.p<F.length
        case' pos=>
          obtain⟨x2,hx2⟩:∃x,F[u.p]? = some x:=⟨_,ax hlu⟩;have hw:=rJ hx2;obtain⟨g2,o2,c2,z0,z3,z1,z2⟩:=hz.m.wc hx2;have ul:(u.p:Int)<(F.length:Int):=by omega
          have d2:decide ((u.p:Int)<(F.length:Int))=true:=aJ ul;clear hz hx2
          cases hkd:(x2.kd==6)
          case' true=>
            rw[hkd] at hw;have hy:=(iN (F:=F) u hBu.p).yy (t:=eC 7 u) (by rw[aE hw]);have HE:=aa ((LC.goy iN hBu.p (t:=eC 7 u) (by show (if _ then _ else _)=_;rw[aE hw])).symm.trans HU.out);go_wp2_with fail;go_quiet (fail);have UQ:=aa (U0.out.drew nq);go_wp2_with (
              (go_at_call 40;with_reducible refine Ny.go UQ (qE hF (k:=7) (by decide) (hBu.mono (by omega)) hlu) fun w6 H6=>?_))
            refine⟨⟨_,aA hqu (bj hy.2),hBu.gd hy.1,HE.out,H6.out⟩,?_⟩;rw[H6.out.m.pOn,HP.out]
            have:=hy.2
            have:=hy.1.N
            omega
          case' false=>
            rw[hkd] at hw
        case' neg=>
          have hw:=sR hlu;obtain⟨A2,c2,z0,z3⟩:=hz.m.fc;have d2:decide ((u.p:Int)<(F.length:Int))=false:=aU (by omega);clear hz
        all_goals (
          have HE:=aa (HU.out.symm.trans (LC.gon iN hBu.p (t:=u) (by show (if _ then _ else _)=_;rw[aB (by rw[hw];decide)])));go_wp2_with fail;go_quiet (fail);have UQ:=aa (U0.out.drew nq);clear hw z0 z3 d2
          cases hc:dO F [59] u
          ·cases hd:dO F [110] u
           ·obtain⟨hz,hz2⟩:=Kt hBu.p hd;have HZ:=aa hz2.symm;clear hz2;have hg7:=ik (F:=F) hBu.p;have hB7:=hBu.gd hg7;have hq7:q≤(eR u).p:=aA hqu hg7.p;have e:T=xu F L (eR u):=by rw[HT.out];unfold vG;rw[HE.out];simp only[hc,hd,br,aK]
            go_wp2_with (first
              | (go_at_call 208;with_reducible refine Ny.go H8 (rQ hF hL HL hq7 (hB7.mono (by omega))) fun w9 H9=>?_)
              | (go_at_call 113;with_reducible refine Ny.go (Ny.cast H7 HZ.out) (nP hF (hBu.mono (by omega))) fun w8 H8=>?_)
              | (go_at_call 67;with_reducible refine Ny.go H6 (gC hF hBu.p) fun w7 H7=>?_)
              | (go_at_call 37;with_reducible refine Ny.go UQ (fi _ hF hBu.p [59] (by decide) hc) fun w6 H6=>?_)
              | fail)
            first|go_end0|refine az (aI rfl _ _ _) rfl ?_
            exact⟨rfl,by rw[e];exact H9.out⟩
           ·have hz:=Ks hBu.p hd;have hg7:=dZ (F:=F) hBu.p;have hB7:=hBu.gd hg7;have hq7:q≤(dJ F u).p:=aA hqu hg7.p;have e:T=xu F L (dJ F u):=by rw[HT.out];unfold vG;rw[HE.out];simp only[hc,hd,bW,br,aK]
            go_wp2_with (first
              | (go_at_call 208;with_reducible refine Ny.go H7 (rQ hF hL HL hq7 (hB7.mono (by omega))) fun w8 H8=>?_)
              | (go_at_call 67;with_reducible refine Ny.go H6 (gC hF hBu.p) fun w7 H7=>?_)
              | (go_at_call 37;with_reducible refine Ny.go UQ (fi _ hF hBu.p [59] (by decide) hc) fun w6 H6=>?_)
              | fail)
            first|go_end0|refine az (aI rfl _ _ _) rfl ?_
            exact⟨rfl,by rw[e];exact H8.out⟩
          ·have hlt6:=ek hc (by decide)
           first
             | exact absurd hlt6 hlu
             | (have hn6:=hBu.next hlt6 (by omega);have hg7:=dZ (F:=F) hn6.p;have hB7:=hn6.gd hg7;have hq7:q≤(dJ F (dL u)).p:=aA hqu (aA (bY _) hg7.p);have e:T=xu F L (dJ F (dL u)):=by rw[HT.out];unfold vG;rw[HE.out];simp only[hc,bW]
                go_wp2_with (first
                  | (go_at_call 208;with_reducible refine Ny.go H7 (rQ hF hL HL hq7 (hB7.mono (by omega))) fun w8 H8=>?_)
                  | (go_at_call 67;with_reducible refine Ny.go H6 (gC hF hn6.p) fun w7 H7=>?_)
                  | (go_at_call 37;with_reducible refine Ny.inc UQ (by omega) (fi _ hF hBu.p [59] (by decide) hc) fun w6 gw6 dw6 kw6 vw6 H6=>?_)
                  | fail)
                first|go_end0|refine az (aI rfl _ _ _) rfl ?_
                exact⟨rfl,by rw[e];exact H8.out⟩))
    ·have hlt4:=ek ha (by decide);have hn4:=hB1.next hlt4 (by omega);have hg5:=dZ (F:=F) hn4.p;have hB5:=hn4.gd hg5;have hq5:q≤(dJ F (dL s1)).p:=aA hq1 (aA (bY _) hg5.p);have e:T=xu F L (dJ F (dL s1)):=by rw[HG.out.2,aE ha]
     go_wp2_with (first
       | (go_at_call 208;with_reducible refine Ny.go H3 (rQ hF hL HL hq5 (hB5.mono (by omega))) fun w4 H4=>?_)
       | (go_at_call 67;with_reducible refine Ny.go H2 (gC hF hn4.p) fun w3 H3=>?_)
       | (go_at_call 37;with_reducible refine Ny.inc H1 (by omega) (fi _ hF hB1.p [59] (by decide) ha) fun w2 gw2 dw2 kw2 vw2 H2=>?_)
       | fail)
     first|go_end0|refine az (aI rfl _ _ _) rfl ?_
     exact⟨rfl,by rw[e];exact H4.out⟩)
end
section
variable {g:Nat} {fv:Value} {F:List Lf} {L:Ps→Ps} {q:Nat} {s:Ps} {W:World} (hF:FB F) (hL:GL F L) (HL:sB g fv F L q)
include hF hL HL
theorem J7 (hq:q≤s.p) (hB:Bd F 0 s) (h:Nk g fv F s W) :
    Calls Tryz.prog 210 #[.pointer (some ⟨g,0,none⟩)] W fun e w'=>e=.returned (.tuple #[])∧Ny g fv F W (ju F L s) w':=by
  have hn:=hF.n;have hp:=hB.p;obtain⟨T,hT⟩:∃T,T=ju F L s:=⟨_,rfl⟩;rw[←hT];have HT:=aa (show T=eE F 122 ((eQ F.length (fun s=>if f7 F s=true then (if dO F [121] (dN 15 (ef F L) s)=true then (dJ F (dL (dN 15 (ef F L) s)),true) else (dN 15 (ef F L) s,false)) else (s,false))) (dJ F (eE F 107 (dJ F (eD F s))))) from hT);clear hT;have hg1:=ij (F:=F) hp;have hB1:=hB.gd hg1;have hg2:=dZ (F:=F) hB1.p;have hB2:=hB1.gd hg2;have hg3:=fO (F:=F) (c:=107) (by decide) hB2.p;have hB3:=hB2.gd hg3;have hg4:=dZ (F:=F) hB3.p;have hB4:=hB3.gd hg4;have hq4:=aA hq (aA hg1.p (aA hg2.p (aA hg3.p hg4.p)));have H0:=aa (Ny.start h);clear h;go_enter Tryz.func210,Tryz.ntmps210
  go_wp2_with (first
    | (go_at_call 67;with_reducible refine Ny.go H3 (gC hF hB3.p) fun w4 H4=>?_)
    | (go_at_call 177;with_reducible refine Ny.go H2 (jA hF (hB2.mono (by omega)) 107 (by decide)) fun w3 H3=>?_)
    | (go_at_call 67;with_reducible refine Ny.go H1 (gC hF hB1.p) fun w2 H2=>?_)
    | (go_at_call 211;with_reducible refine Ny.go H0 (rp hF (hB.mono (by omega))) fun w1 H1=>?_)
    | fail)
  go_loopw [2] (fun v wr=>∃(u:Ps) (b:Bool),v=.bool b∧q≤u.p∧Bd F 5 u∧(if b=true then eQ F.length (fun s=>if f7 F s=true then (if dO F [121] (dN 15 (ef F L) s)=true then (dJ F (dL (dN 15 (ef F L) s)),true) else (dN 15 (ef F L) s,false)) else (s,false)) u=eQ F.length (fun s=>if f7 F s=true then (if dO F [121] (dN 15 (ef F L) s)=true then (dJ F (dL (dN 15 (ef F L) s)),true) else (dN 15 (ef F L) s,false)) else (s,false)) (dJ F (eE F 107 (dJ F (eD F s)))) else u=eQ F.length (fun s=>if f7 F s=true then (if dO F [121] (dN 15 (ef F L) s)=true then (dJ F (dL (dN 15 (ef F L) s)),true) else (dN 15 (ef F L) s,false)) else (s,false)) (dJ F (eE F 107 (dJ F (eD F s)))))∧Ny g fv F W u wr) (fun v wr=>F.length-pOn g wr)
  case atStart=>exact⟨_,true,rfl,hq4,hB4.mono (by omega),by rw[aE rfl],H4.out⟩
  case round=>
    obtain⟨u,b,rfl,hqu,hBu,hU,hz⟩:=hrel;have U0:=aa hz;have HU:=aa hU;have HP:=aa hz.m.pOn;have hup:=hBu.p;have uu:(0:Int)≤(u.p:Int):=by omega
    clear hU
    cases b
    ·have HX:=aa (show u=eQ F.length (fun s=>if f7 F s=true then (if dO F [121] (dN 15 (ef F L) s)=true then (dJ F (dL (dN 15 (ef F L) s)),true) else (dN 15 (ef F L) s,false)) else (s,false)) (dJ F (eE F 107 (dJ F (eD F s)))) by have h1:=HU.out;rw[aB (by decide)] at h1;exact h1);clear hz;go_wp2_with fail;go_quiet (fail);have UQ:=aa (U0.out.drew nq);go_wp2_with (
       (go_at_call 177;with_reducible refine Ny.go UQ (jA hF (hBu.mono (by omega)) 122 (by decide)) fun w6 H6=>?_))
     first|go_end0|refine az (aI rfl _ _ _) rfl ?_
     exact⟨rfl,by rw[HT.out,←HX.out];exact H6.out⟩
    ·have HV:=aa (show eQ F.length (fun s=>if f7 F s=true then (if dO F [121] (dN 15 (ef F L) s)=true then (dJ F (dL (dN 15 (ef F L) s)),true) else (dN 15 (ef F L) s,false)) else (s,false)) u=eQ F.length (fun s=>if f7 F s=true then (if dO F [121] (dN 15 (ef F L) s)=true then (dJ F (dL (dN 15 (ef F L) s)),true) else (dN 15 (ef F L) s,false)) else (s,false)) (dJ F (eE F 107 (dJ F (eD F s)))) by have h1:=HU.out;rw[aE rfl] at h1;exact h1);clear HU;have q1:=qG hF hup [40] (by decide) hz.m;have q2:=qG hF hup [122] (by decide) hz.m;have hi:f7 F u=(dO F [40] u||i4 F u.p && !dO F [122] u):=by unfold f7;rw[jt,jt];rfl
     have key:dO F [40] u=true∨(dO F [40] u=false∧u.p<F.length∧i4 F u.p=true∧dO F [122] u=false)∨(dO F [40] u=false∧u.p<F.length∧i4 F u.p=true∧dO F [122] u=true)∨(dO F [40] u=false∧u.p<F.length∧i4 F u.p=false)∨(dO F [40] u=false∧¬u.p<F.length):=by
       by_cases hl:u.p<F.length<;>cases dO F [40] u<;>cases i4 F u.p<;>cases dO F [122] u<;>simp[hl]
     rcases key with h1|⟨h1,hlu,hw,h2⟩|⟨h1,hlu,hw,h2⟩|⟨h1,hlu,hw⟩|⟨h1,hlu⟩
     case' inl=>
       have hib:f7 F u=true:=by rw[hi,h1];rfl
       rw[h1] at q1
     case' inr.inl=>
       have hib:f7 F u=true:=by rw[hi,h1,hw,h2];rfl
       rw[h1] at q1;rw[h2] at q2;obtain⟨x2,hx2⟩:∃x,F[u.p]? = some x:=⟨_,ax hlu⟩;obtain⟨g2,o2,c2,z0,z3,z1,z2⟩:=hz.m.wc hx2;have ul:(u.p:Int)<(F.length:Int):=by omega
       have d2:decide ((u.p:Int)<(F.length:Int))=true:=aJ ul;rw[rJ hx2] at hw
     case' inr.inr.inl=>
       have hib:f7 F u=false:=by rw[hi,h1,hw,h2];rfl
       rw[h1] at q1;rw[h2] at q2;obtain⟨x2,hx2⟩:∃x,F[u.p]? = some x:=⟨_,ax hlu⟩;obtain⟨g2,o2,c2,z0,z3,z1,z2⟩:=hz.m.wc hx2;have ul:(u.p:Int)<(F.length:Int):=by omega
       have d2:decide ((u.p:Int)<(F.length:Int))=true:=aJ ul;rw[rJ hx2] at hw;have HX:=aa (show u=eQ F.length (fun s=>if f7 F s=true then (if dO F [121] (dN 15 (ef F L) s)=true then (dJ F (dL (dN 15 (ef F L) s)),true) else (dN 15 (ef F L) s,false)) else (s,false)) (dJ F (eE F 107 (dJ F (eD F s)))) by
         rw[←HV.out]
         exact(LC.gon (iG hL) hBu.p (by show (if _ then _ else _)=_;rw[aB (by rw[hib];decide)])).symm)
     case' inr.inr.inr.inl=>
       have hib:f7 F u=false:=by rw[hi,h1,hw];rfl
       rw[h1] at q1;obtain⟨x2,hx2⟩:∃x,F[u.p]? = some x:=⟨_,ax hlu⟩;obtain⟨g2,o2,c2,z0,z3,z1,z2⟩:=hz.m.wc hx2;have ul:(u.p:Int)<(F.length:Int):=by omega
       have d2:decide ((u.p:Int)<(F.length:Int))=true:=aJ ul;rw[rJ hx2] at hw;have HX:=aa (show u=eQ F.length (fun s=>if f7 F s=true then (if dO F [121] (dN 15 (ef F L) s)=true then (dJ F (dL (dN 15 (ef F L) s)),true) else (dN 15 (ef F L) s,false)) else (s,false)) (dJ F (eE F 107 (dJ F (eD F s)))) by
         rw[←HV.out]
         exact(LC.gon (iG hL) hBu.p (by show (if _ then _ else _)=_;rw[aB (by rw[hib];decide)])).symm)
     case' inr.inr.inr.inr=>
       have hib:f7 F u=false:=by rw[hi,h1,sR hlu];rfl
       rw[h1] at q1;obtain⟨A2,c2,z0,z3⟩:=hz.m.fc;have d2:decide ((u.p:Int)<(F.length:Int))=false:=aU (by omega);have HX:=aa (show u=eQ F.length (fun s=>if f7 F s=true then (if dO F [121] (dN 15 (ef F L) s)=true then (dJ F (dL (dN 15 (ef F L) s)),true) else (dN 15 (ef F L) s,false)) else (s,false)) (dJ F (eE F 107 (dJ F (eD F s)))) by
         rw[←HV.out]
         exact(LC.gon (iG hL) hBu.p (by show (if _ then _ else _)=_;rw[aB (by rw[hib];decide)])).symm)
     all_goals (
       have HQ:=aa (ac q1 q2);clear hz q1 q2 hi;go_wp2_with fail
       go_quiet (first
         | (go_at_call 37;with_reducible exact HQ.out.1 _)
         | (go_at_call 37;with_reducible exact HQ.out.2 _)
         | fail)
       have UQ:=aa (U0.out.drew nq))
     case true.inr.inr.inl|true.inr.inr.inr.inl|true.inr.inr.inr.inr=>
       go_wp2_with (
         (go_at_call 177;with_reducible refine Ny.go UQ (jA hF (hBu.mono (by omega)) 122 (by decide)) fun w6 H6=>?_))
       first|go_end0|refine az (aI rfl _ _ _) rfl ?_
       exact⟨rfl,by rw[HT.out,←HX.out];exact H6.out⟩
     case' true.inl=>
       have hgi:=qN hL hib;have hB8:=hBu.gd hgi.1;have hq8:q≤(dN 15 (ef F L) u).p:=aA hqu hgi.1.p;have hpl:=hgi.2;have hbp:=hB8.p;have hBi:=hBu.inn 15;have hgt:=gD (F:=F) (cs:=[40]) (by decide) hBi.p;have hBt:=hBi.gd hgt;have hgw:=ij (F:=F) hBt.p;have hBw:=hBt.gd hgw;have hqw:q≤(eD F (eB F [40] (fB 15 u))).p:=aA hqu (aA hgt.p hgw.p);have HGI:=aa (sU hL hBi.p);have hi5:(fB 15 u).p≤100000:=by show u.p≤_;omega
       have HK:=aa (show eB F [40] (fB 15 u)=dL (fB 15 u) from lW h1);have h1i:dO F [40] (fB 15 u)=true:=h1
       go_wp2_with (first
         | (go_at_call 211;with_reducible refine Ny.go (Ny.cast A2 HK.out) (rp hF (hBt.mono (by omega))) fun a3 A3=>?_)
         | (go_at_call 37;with_reducible refine Ny.inc A1 (hi5) (fi true hF hBi.p [40] (by decide) h1i) fun a2 ga2 da2 ka2 va2 A2=>?_)
         | (go_at_call 36;with_reducible refine Ny.go UQ (kV hF 15 (by decide) (hBu.mono (by omega))) fun a1 A1=>?_)
         | fail)
     case' true.inr.inl=>
       have hgi:=qN hL hib;have hB8:=hBu.gd hgi.1;have hq8:q≤(dN 15 (ef F L) u).p:=aA hqu hgi.1.p;have hpl:=hgi.2;have hbp:=hB8.p;have hBi:=hBu.inn 15;have hgt:=gD (F:=F) (cs:=[40]) (by decide) hBi.p;have hBt:=hBi.gd hgt;have hgw:=ij (F:=F) hBt.p;have hBw:=hBt.gd hgw;have hqw:q≤(eD F (eB F [40] (fB 15 u))).p:=aA hqu (aA hgt.p hgw.p);have HGI:=aa (sU hL hBi.p);have hi5:(fB 15 u).p≤100000:=by show u.p≤_;omega
       have HK:=aa (show eB F [40] (fB 15 u)=fB 15 u from pD h1);have h1i:dO F [40] (fB 15 u)=false:=h1
       go_wp2_with (first
         | (go_at_call 211;with_reducible refine Ny.go (Ny.cast A2 HK.out) (rp hF (hBt.mono (by omega))) fun a3 A3=>?_)
         | (go_at_call 37;with_reducible refine Ny.go A1 (fi false hF hBi.p [40] (by decide) h1i) fun a2 A2=>?_)
         | (go_at_call 36;with_reducible refine Ny.go UQ (kV hF 15 (by decide) (hBu.mono (by omega))) fun a1 A1=>?_)
         | fail)
     all_goals (
       rename_i wro;go_loopw [] (fun wr=>∃z:Ps,q≤z.p∧Bd F 7 z∧eQ F.length (fun s=>if dO F [124] s=true then (eD F (dL s),true) else (s,false)) z=eQ F.length (fun s=>if dO F [124] s=true then (eD F (dL s),true) else (s,false)) (eD F (eB F [40] (fB 15 u)))∧Ny g fv F W z wr) (fun wr=>F.length-pOn g wr)
       case atStart=>exact⟨_,hqw,hBw,rfl,A3.out⟩
       case round=>
         obtain⟨z,hqz,hBz,hlz,hz⟩:=hrel;have Z0:=aa hz;have HZ:=aa hlz;have ZP:=aa hz.m.pOn;have hzp:=hBz.p;clear hz hlz
         cases hc:dO F [124] z
         ·have HE:=aa (HZ.out.symm.trans (LC.gon nT hBz.p (t:=z) (by show (if _ then _ else _)=_;rw[aB (by rw[hc];decide)])));have hg5:=fO (F:=F) (c:=41) (by decide) hBz.p;have hB5:=hBz.gd hg5;have hg6:=dZ (F:=F) hB5.p;have hB6:=hB5.gd hg6;have hq6:q≤(dJ F (eE F 41 z)).p:=aA hqz (aA hg5.p hg6.p)
          cases hd:fQ F (dJ F (eE F 41 z))
          case' false=>
            have HF:=aa (show ef F L (fB 15 u)=dJ F (eE F 41 z) by unfold ef;rw[HE.out];simp only[hd,br,aK])
          case' true=>
            have HF:=aa (show ef F L (fB 15 u)=dN 2 L (dJ F (eE F 41 z)) by unfold ef;rw[HE.out];simp only[hd,bW])
          all_goals (
            cases hy:dO F [121] (dN 15 (ef F L) u)
            case' true=>
              have hltv:=ek hy (by decide);have hn8:=hB8.next hltv (by omega);have hg9:=dZ (F:=F) hn8.p;have hB9:=hn8.gd hg9;have hq9:q≤(dJ F (dL (dN 15 (ef F L) u))).p:=aA hq8 (aA (bY _) hg9.p)
            all_goals (
              go_wp2_with (first
                | (go_at_call 67;with_reducible refine Ny.go N8a (gC hF hn8.p) fun m7 N9=>?_)
                | (go_at_call 37;with_reducible refine Ny.go N8 (fi false hF hB8.p [121] (by decide) hy) fun m6 N8a=>?_)
                | (go_at_call 37;with_reducible refine Ny.inc N8 (by omega) (fi true hF hB8.p [121] (by decide) hy) fun m6 gm6 dm6 km6 vm6 N8a=>?_)
                | (go_at_call 41;with_reducible refine Ny.go (Ny.cast M3 HF.out) (od hF 15 (ef F L) (by decide) (hBu.mono (by omega)) HGI.out (by omega)) fun m5 N8=>?_)
                | (go_at_call 41;with_reducible refine Ny.go (Ny.cast M4 HF.out) (od hF 15 (ef F L) (by decide) (hBu.mono (by omega)) HGI.out (by omega)) fun m5 N8=>?_)
                | (go_at_call 39;with_reducible refine Ny.go M3 (AW HL hq6 (hB6.mono (by omega)) hd) fun m4 M4=>?_)
                | (go_at_call 38;with_reducible refine Ny.go M2 (mW hF _ hB6.p hd) fun m3 M3=>?_)
                | (go_at_call 67;with_reducible refine Ny.go M1 (gC hF hB5.p) fun m2 M2=>?_)
                | (go_at_call 177;with_reducible refine Ny.go Z1 (jA hF (hBz.mono (by omega)) 41 (by decide)) fun m1 M1=>?_)
                | (go_at_call 37;with_reducible refine Ny.go Z0 (fi false hF hBz.p [124] (by decide) hc) fun m0 Z1=>?_)
                | fail))
            ·have hX:eQ F.length (fun s=>if f7 F s=true then (if dO F [121] (dN 15 (ef F L) s)=true then (dJ F (dL (dN 15 (ef F L) s)),true) else (dN 15 (ef F L) s,false)) else (s,false)) (dJ F (dL (dN 15 (ef F L) u)))=eQ F.length (fun s=>if f7 F s=true then (if dO F [121] (dN 15 (ef F L) s)=true then (dJ F (dL (dN 15 (ef F L) s)),true) else (dN 15 (ef F L) s,false)) else (s,false)) (dJ F (eE F 107 (dJ F (eD F s)))):=by
               rw[←HV.out]
               exact(LC.goy (iG hL) hBu.p (by show (if _ then (if _ then _ else _) else _)=_;rw[aE hib,aE hy])).symm
             refine⟨⟨_,true,rfl,hq9,hB9.mono (by omega),by rw[aE rfl];exact hX,N9.out⟩,?_⟩;rw[N9.out.m.pOn,HP.out];have h1:=hg9.p;have h2:(dL (dN 15 (ef F L) u)).p=(dN 15 (ef F L) u).p+1:=rfl
             have:=hB9.p
             omega
            ·have hX:dN 15 (ef F L) u=eQ F.length (fun s=>if f7 F s=true then (if dO F [121] (dN 15 (ef F L) s)=true then (dJ F (dL (dN 15 (ef F L) s)),true) else (dN 15 (ef F L) s,false)) else (s,false)) (dJ F (eE F 107 (dJ F (eD F s)))):=by
               rw[←HV.out]
               exact(LC.gon (iG hL) hBu.p (by show (if _ then (if _ then _ else _) else _)=_;rw[aE hib,aB (by rw[hy];decide)])).symm
             refine⟨⟨_,false,rfl,hq8,hB8.mono (by omega),by rw[aB (by decide)];exact hX,N8a.out⟩,?_⟩;rw[N8a.out.m.pOn,HP.out]
             have:=hB8.p
             omega)
         ·have hltz:=ek hc (by decide);have hnz:=hBz.next hltz (by omega);have hgz:=ij (F:=F) hnz.p;have hy2:=(nT (F:=F) z hBz.p).yy (t:=eD F (dL z)) (by rw[aE hc]);have HE:=aa ((LC.goy nT hBz.p (t:=eD F (dL z)) (by show (if _ then _ else _)=_;rw[aE hc])).symm.trans HZ.out)
          go_wp2_with (first
            | (go_at_call 211;with_reducible refine Ny.go K1 (rp hF (hnz.mono (by omega))) fun k2 K2=>?_)
            | (go_at_call 37;with_reducible refine Ny.inc Z0 (by omega) (fi _ hF hBz.p [124] (by decide) hc) fun k1 gk1 dk1 kk1 vk1 K1=>?_)
            | fail)
          refine⟨⟨_,aA hqz (bj hy2.2),hBz.gd hy2.1,HE.out,K2.out⟩,?_⟩;rw[K2.out.m.pOn,ZP.out]
          have:=hy2.2
          have:=hy2.1.N
          omega)
end
end
end Go.Proofs.YtcagfamdoaoimaaGreatDoor
