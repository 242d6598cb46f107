/- The parser: bodies, braces, loops. -/
import Derived.Test.YtcagfamdoaoimaaGreatDoorPm13
set_option linter.unusedVariables false
set_option linter.unusedSimpArgs false
set_option maxRecDepth 100000
set_option maxHeartbeats 8000000
namespace Go.Proofs.YtcagfamdoaoimaaGreatDoor
open Go.RowKit
variable {F:List Lf} {g q N B bx by_ fX:Nat} {s t:Ps} {r:Ps×Bool} {L:Ps→Ps} {c:Ps→Ps×Bool} {fv:Value} {W:World}
def gH (g:Nat) (fv:Value) (F:List Lf) (L:Ps→Ps) (q:Nat):Prop:=∀(s:Ps) (W:World),q≤s.p→Bd F 20 s→Mk g fv F s W →
  lD 102 g fv F W (.tuple #[]) (L s)
theorem wQ (hF:FB F) (hL:GL F L) (HL:gH g fv F L q) (h:Mk g fv F s W) (hq:q≤s.p) (hB:Bd F 19 s) :
    Calls Tryz.prog 58 #[.pointer (some ⟨g,0,none⟩),.int .i64 2,.func (.func 102) #[.pointer (some ⟨g,0,none⟩)] #[]] W fun e w'=>e=.returned (.tuple #[])∧Mz g fv F W (dO 2 L s) w':=by
  have hi:=hB.inn 2;have hg:=hL (fC 2 s) hi.p;have hn:=hF.n;have h1:=hg.l;have h2:=hg.N;rw[oL] at h1;exact tX (t:=L (fC 2 s)) 2 _ h (hB.l5 hF (by omega)) (by omega) (enters_of Tryz.func102 (by kernel_rfl) rfl) (fun W1 h1=>HL _ W1 hq hi h1.m) (by omega) (by omega)
theorem nm (hF:FB F) (hL:GL F L) (HL:gH g fv F L q) (h:Mk g fv F s W) (hq:q≤s.p) (hB:Bd F 14 s) :
    lD 265 g fv F W (.tuple #[]) (eM F L s):=by
  have hB1:=hB.gd (dY hB.p);have hq1:q≤(dK F s).p:=aA hq (dY (F:=F) hB.p).p;unfold eM
  cases hb:fq F (dK F s)
  ·have HC1:=aa (fun W1 (h1:Mk g fv F (s) W1)=>fM hF h1 hB.p);have HC2:=aa (fun W1 (h1:Mk g fv F (dK F s) W1)=>me hF h1 hB1.p hb);have HC3:=aa (fun W1 (h1:Mk g fv F (dK F s) W1)=>fT hF h1 (hB1.mono (by omega)));have H0:=aa (Mz.start h);clear h;go_enter Tryz.func265,Tryz.ntmps265
   go_wp2_with (first
     | (go_at_call 138;with_reducible refine(HC1.out _ H0.out.m).mono (Mz.k H0 fun hw1 H1=>?_))
     | (go_at_call 101;with_reducible refine(HC2.out _ H1.out.m).mono (Mz.k H1 fun hw2 H2=>?_))
     | (go_at_call 204;with_reducible refine(HC3.out _ H2.out.m).mono (Mz.k H2 fun hw3 H3=>?_))
     | fail)
   first|go_end0|refine bn ?_
   exact⟨rfl,H3.out⟩
  ·have HC1:=aa (fun W1 (h1:Mk g fv F (s) W1)=>fM hF h1 hB.p);have HC2:=aa (fun W1 (h1:Mk g fv F (dK F s) W1)=>mc hF h1 hB1.p hb);have HC3:=aa (fun W1 (h1:Mk g fv F (dK F s) W1)=>wQ hF hL HL h1 hq1 (hB1.mono (by omega)));have H0:=aa (Mz.start h);clear h;go_enter Tryz.func265,Tryz.ntmps265
   go_wp2_with (first
     | (go_at_call 138;with_reducible refine(HC1.out _ H0.out.m).mono (Mz.k H0 fun hw1 H1=>?_))
     | (go_at_call 101;with_reducible refine(HC2.out _ H1.out.m).mono (Mz.k H1 fun hw2 H2=>?_))
     | (go_at_call 58;with_reducible refine(HC3.out _ H2.out.m).mono (Mz.k H2 fun hw3 H3=>?_))
     | fail)
   first|go_end0|refine bn ?_
   exact⟨rfl,H3.out⟩
theorem Kb (hF:FB F) (hL:GL F L) (HL:gH g fv F L q) (h:Mk g fv F s W) (hq:q≤s.p) (hB:Bd F 0 s) :
    lD 250 g fv F W (.tuple #[]) (eF F 125 (eM F L s)):=by
  have hB1:=hB.gd (fS hL hB.p);have HC1:=aa (fun W1 (h1:Mk g fv F (s) W1)=>nm hF hL HL h1 hq (hB.mono (by omega)));have HC2:=aa (fun W1 (h1:Mk g fv F (eM F L s) W1)=>iH hF h1 (hB1.mono (by omega)) 125 (by decide));have H0:=aa (Mz.start h);clear h;go_enter Tryz.func250,Tryz.ntmps250
  go_wp2_with (first
    | (go_at_call 265;with_reducible refine(HC1.out _ H0.out.m).mono (Mz.k H0 fun hw1 H1=>?_))
    | (go_at_call 260;with_reducible refine(HC2.out _ H1.out.m).mono (Mz.k H1 fun hw2 H2=>?_))
    | fail)
  first|go_end0|refine bn ?_
  exact⟨rfl,H2.out⟩
theorem Aa (hF:FB F) (hL:GL F L) (HL:gH g fv F L q) (h:Mk g fv F s W) (hq:q≤s.p) (hB:Bd F 0 s) :
    lD 251 g fv F W (.tuple #[]) (eF F 41 (eM F L s)):=by
  have hB1:=hB.gd (fS hL hB.p);have HC1:=aa (fun W1 (h1:Mk g fv F (s) W1)=>nm hF hL HL h1 hq (hB.mono (by omega)));have HC2:=aa (fun W1 (h1:Mk g fv F (eM F L s) W1)=>iH hF h1 (hB1.mono (by omega)) 41 (by decide));have H0:=aa (Mz.start h);clear h;go_enter Tryz.func251,Tryz.ntmps251
  go_wp2_with (first
    | (go_at_call 265;with_reducible refine(HC1.out _ H0.out.m).mono (Mz.k H0 fun hw1 H1=>?_))
    | (go_at_call 260;with_reducible refine(HC2.out _ H1.out.m).mono (Mz.k H1 fun hw2 H2=>?_))
    | fail)
  first|go_end0|refine bn ?_
  exact⟨rfl,H2.out⟩
theorem iY (hF:FB F) (hL:GL F L) (HL:gH g fv F L q) (h:Mk g fv F s W) (hq:q≤s.p) (hB:Bd F 9 s) :
    lD 266 g fv F W (.tuple #[]) (xE F L s):=by
  have hg1:=fO (F:=F) (c:=100) (by decide) hB.p;have hB1:=hB.gd hg1;have hq1:=aA hq hg1.p;have hB2:=hB1.gd (fS hL hB1.p);have HC1:=aa (fun W1 (h1:Mk g fv F (s) W1)=>iH hF h1 (hB.mono (by omega)) 100 (by decide));have HC2:=aa (fun W1 (h1:Mk g fv F (eF F 100 s) W1)=>nm hF hL HL h1 hq1 (hB1.mono (by omega)));have HC3:=aa (fun W1 (h1:Mk g fv F (eM F L (eF F 100 s)) W1)=>iH hF h1 (hB2.mono (by omega)) 103 (by decide));have H0:=aa (Mz.start h);clear h;go_enter Tryz.func266,Tryz.ntmps266
  go_wp2_with (first
    | (go_at_call 260;with_reducible refine(HC1.out _ H0.out.m).mono (Mz.k H0 fun hw1 H1=>?_))
    | (go_at_call 265;with_reducible refine(HC2.out _ H1.out.m).mono (Mz.k H1 fun hw2 H2=>?_))
    | (go_at_call 260;with_reducible refine(HC3.out _ H2.out.m).mono (Mz.k H2 fun hw3 H3=>?_))
    | fail)
  first|go_end0|refine bn ?_
  exact⟨rfl,H3.out⟩
theorem LH (hF:FB F) (hL:GL F L) (HL:gH g fv F L q) (h:Mk g fv F s W) (hq:q≤s.p) (hB:Bd F 0 s) :
    lD 253 g fv F W (.tuple #[]) (xE F L (eM F L s)):=by
  have hg1:=fS hL hB.p;have hB1:=hB.gd hg1;have hq1:=aA hq hg1.p;have HC1:=aa (fun W1 (h1:Mk g fv F (s) W1)=>nm hF hL HL h1 hq (hB.mono (by omega)));have HC2:=aa (fun W1 (h1:Mk g fv F (eM F L s) W1)=>iY hF hL HL h1 hq1 (hB1.mono (by omega)));have H0:=aa (Mz.start h);clear h;go_enter Tryz.func253,Tryz.ntmps253
  go_wp2_with (first
    | (go_at_call 265;with_reducible refine(HC1.out _ H0.out.m).mono (Mz.k H0 fun hw1 H1=>?_))
    | (go_at_call 266;with_reducible refine(HC2.out _ H1.out.m).mono (Mz.k H1 fun hw2 H2=>?_))
    | fail)
  first|go_end0|refine bn ?_
  exact⟨rfl,H2.out⟩
theorem LC.y (h:LC N B s r) (e:r=(t,true)):Gd N 0 s t∧s.p<t.p:=by rw[e] at h;exact h.1 rfl
theorem LC.stepy (h:∀s,s.p≤N→LC N B s (c s)) (hs:s.p≤N) (e:c s=(t,true)):eO N c s=eO N c t:=by
  have h1:=LC.eq h s hs;simp only[e,bQ] at h1;exact h1
theorem LC.stepn (h:∀s,s.p≤N→LC N B s (c s)) (hs:s.p≤N) (e:c s=(t,false)):eO N c s=t:=by
  have h1:=LC.eq h s hs;simp only[e,bp,aI] at h1;exact h1
theorem BC (hF:FB F) (hL:GL F L) (HL:gH g fv F L q) (h:Mk g fv F s W) (hq:q≤s.p) (hB:Bd F 0 s) :
    lD 252 g fv F W (.tuple #[]) (mE F L s):=by
  have hg1:=fS hL hB.p;have hB1:=hB.gd hg1;have hq1:=aA hq hg1.p;have hg2:=fO (F:=F) (c:=116) (by decide) hB1.p;have hB2:=hB1.gd hg2;have hq2:=aA hq1 hg2.p;have hg3:=fS hL hB2.p;have hB3:=hB2.gd hg3;have hq3:=aA hq2 hg3.p;obtain⟨T,hT⟩:∃T,T=mE F L s:=⟨_,rfl⟩;rw[←hT];have HT:=aa hT;clear hT;have HC1:=aa (fun W1 (h1:Mk g fv F (s) W1)=>nm hF hL HL h1 hq (hB.mono (by omega)));have HC2:=aa (fun W1 (h1:Mk g fv F (eM F L s) W1)=>iH hF h1 (hB1.mono (by omega)) 116 (by decide));have HC3:=aa (fun W1 (h1:Mk g fv F (eF F 116 (eM F L s)) W1)=>nm hF hL HL h1 hq2 (hB2.mono (by omega)));have H0:=aa (Mz.start h);clear h;go_enter Tryz.func252,Tryz.ntmps252
  go_wp2_with (first
    | (go_at_call 265;with_reducible refine(HC1.out _ H0.out.m).mono (Mz.k H0 fun hw1 H1=>?_))
    | (go_at_call 260;with_reducible refine(HC2.out _ H1.out.m).mono (Mz.k H1 fun hw2 H2=>?_))
    | (go_at_call 265;with_reducible refine(HC3.out _ H2.out.m).mono (Mz.k H2 fun hw3 H3=>?_))
    | fail)
  go_loopw [] (fun wr=>∃u:Ps,q≤u.p∧Bd F 9 u∧(eO F.length (fun s=>if dQ F [101] s=true then (eM F L (eF F 116 (eM F L (dM s))),true) else (s,false))) u=(eO F.length (fun s=>if dQ F [101] s=true then (eM F L (eF F 116 (eM F L (dM s))),true) else (s,false))) (eM F L (eF F 116 (eM F L s)))∧Mz g fv F W u wr) (fun wr=>F.length-pOf g wr)
  case atStart=>exact⟨_,hq3,hB3,rfl,H3.out⟩
  case round=>
    obtain⟨u,hqu,hBu,hlu,hz⟩:=hrel;have U0:=aa hz;have HU:=aa hlu;have hup:=hz.m.pOf;have HP:=aa hup;clear hz hlu hup
    cases hb:dQ F [101] u
    ·have HE:=aa (HU.out.symm.trans (LC.stepn (ly hL) hBu.p (t:=u) (by show (if _ then _ else _)=_;rw[aB (by rw[hb];decide)])))
     cases hc:dQ F [108] u
     ·have NC1:=aa (fun W1 (h1:Mk g fv F (u) W1)=>fA hF h1 hBu.p [101] (by decide) hb);have NC2:=aa (fun W1 (h1:Mk g fv F (u) W1)=>fA hF h1 hBu.p [108] (by decide) hc);have NC3:=aa (fun W1 (h1:Mk g fv F (u) W1)=>iH hF h1 (hBu.mono (by omega)) 102 (by decide))
      go_wp2_with (first
        | (go_at_call 100;with_reducible refine(NC1.out _ U0.out.m).mono (Mz.k U0 fun nw1 N1=>?_))
        | (go_at_call 100;with_reducible refine(NC2.out _ N1.out.m).mono (Mz.k N1 fun nw2 N2=>?_))
        | (go_at_call 260;with_reducible refine(NC3.out _ N2.out.m).mono (Mz.k N2 fun nw3 N3=>?_))
        | fail)
      first|go_end0|refine bn ?_
      refine⟨rfl,?_⟩;rw[HT.out];unfold mE;simp only;rw[HE.out];simp only[hc,bp,aI];exact N3.out
     ·have hlt:=eh hc (by decide);have hn2:=hBu.next hlt (by omega);have hq7:q≤(dM u).p:=aA hqu (cg _);have hg8:=fS hL hn2.p;have hB8:=hn2.gd hg8;have NC1:=aa (fun W1 (h1:Mk g fv F (u) W1)=>fA hF h1 hBu.p [101] (by decide) hb);have NC2:=aa (fun W1 (h1:Mk g fv F (u) W1)=>fV hF h1 hBu.p [108] (by decide) hc);have NC3:=aa (fun W1 (h1:Mk g fv F (dM u) W1)=>nm hF hL HL h1 hq7 (hn2.mono (by omega)));have NC4:=aa (fun W1 (h1:Mk g fv F (eM F L (dM u)) W1)=>iH hF h1 (hB8.mono (by omega)) 102 (by decide))
      go_wp2_with (first
        | (go_at_call 100;with_reducible refine(NC1.out _ U0.out.m).mono (Mz.k U0 fun nw1 N1=>?_))
        | (go_at_call 100;with_reducible refine(NC2.out _ N1.out.m).mono (Mz.k N1 fun nw2 N2=>?_))
        | (go_at_call 265;with_reducible refine(NC3.out _ N2.out.m).mono (Mz.k N2 fun nw3 N3=>?_))
        | (go_at_call 260;with_reducible refine(NC4.out _ N3.out.m).mono (Mz.k N3 fun nw4 N4=>?_))
        | fail)
      first|go_end0|refine bn ?_
      refine⟨rfl,?_⟩;rw[HT.out];unfold mE;simp only;rw[HE.out];simp only[hc,bQ];exact N4.out
    ·have hy:=LC.y ((ly hL) u hBu.p) (t:=eM F L (eF F 116 (eM F L (dM u)))) (by show (if _ then _ else _)=_;rw[aD hb]);have HE:=aa ((LC.stepy (ly hL) hBu.p (t:=eM F L (eF F 116 (eM F L (dM u)))) (by show (if _ then _ else _)=_;rw[aD hb])).symm.trans HU.out);have hlt:=eh hb (by decide);have hn1:=hBu.next hlt (by omega);have hq4:q≤(dM u).p:=aA hqu (cg _);have hg4:=fS hL hn1.p;have hB4:=hn1.gd hg4;have hq5:=aA hq4 hg4.p;have hg5:=fO (F:=F) (c:=116) (by decide) hB4.p;have hB5:=hB4.gd hg5;have hq6:=aA hq5 hg5.p;have YC1:=aa (fun W1 (h1:Mk g fv F (u) W1)=>fV hF h1 hBu.p [101] (by decide) hb);have YC2:=aa (fun W1 (h1:Mk g fv F (dM u) W1)=>nm hF hL HL h1 hq4 (hn1.mono (by omega)));have YC3:=aa (fun W1 (h1:Mk g fv F (eM F L (dM u)) W1)=>iH hF h1 (hB4.mono (by omega)) 116 (by decide));have YC4:=aa (fun W1 (h1:Mk g fv F (eF F 116 (eM F L (dM u))) W1)=>nm hF hL HL h1 hq6 (hB5.mono (by omega)))
     go_wp2_with (first
       | (go_at_call 100;with_reducible refine(YC1.out _ U0.out.m).mono (Mz.k U0 fun yw1 Y1=>?_))
       | (go_at_call 265;with_reducible refine(YC2.out _ Y1.out.m).mono (Mz.k Y1 fun yw2 Y2=>?_))
       | (go_at_call 260;with_reducible refine(YC3.out _ Y2.out.m).mono (Mz.k Y2 fun yw3 Y3=>?_))
       | (go_at_call 265;with_reducible refine(YC4.out _ Y3.out.m).mono (Mz.k Y3 fun yw4 Y4=>?_))
       | fail)
     refine⟨⟨_,aA hqu (bq hy.2),hBu.gd hy.1,HE.out,Y4.out⟩,?_⟩;rw[Y4.out.m.pOf,HP.out]
     have:=hy.2
     have:=hy.1.N
     omega
theorem LN (hF:FB F) (hL:GL F L) (HL:gH g fv F L q) (h:Mk g fv F s W) (hq:q≤s.p) (hB:Bd F 10 s) :
    lD 267 g fv F W (.tuple #[]) (dZ F L s):=by
  have hg1:=gr (F:=F) (cs:=[40]) (by decide) hB.p;have hB1:=hB.gd hg1;have hg2:=ie (F:=F) hB1.p;have hB2:=hB1.gd hg2;have hq2:=aA hq (aA hg1.p hg2.p);obtain⟨T,hT⟩:∃T,T=dZ F L s:=⟨_,rfl⟩;rw[←hT];have HT:=aa hT;clear hT;have HC1:=aa (fun W1 (h1:Mk g fv F (s) W1)=>lV hF h1 hB.p [40] (by decide));have HC2:=aa (fun W1 (h1:Mk g fv F (eB F [40] s) W1)=>oH hF h1 (hB1.mono (by omega)));have H0:=aa (Mz.start h);clear h;go_enter Tryz.func267,Tryz.ntmps267
  go_wp2_with (first
    | (go_at_call 100;with_reducible refine(HC1.out _ H0.out.m).mono (Mz.k H0 fun hw1 H1=>?_))
    | (go_at_call 259;with_reducible refine(HC2.out _ H1.out.m).mono (Mz.k H1 fun hw2 H2=>?_))
    | fail)
  go_loopw [] (fun wr=>∃u:Ps,q≤u.p∧Bd F 11 u∧(eO F.length (fun s=>if dQ F [124] s=true then (eE F (dM s),true) else (s,false))) u=(eO F.length (fun s=>if dQ F [124] s=true then (eE F (dM s),true) else (s,false))) (eE F (eB F [40] s))∧Mz g fv F W u wr) (fun wr=>F.length-pOf g wr)
  case atStart=>exact⟨_,hq2,hB2,rfl,H2.out⟩
  case round=>
    obtain⟨u,hqu,hBu,hlu,hz⟩:=hrel;have U0:=aa hz;have HU:=aa hlu;have hup:=hz.m.pOf;have HP:=aa hup;clear hz hlu hup
    cases hb:dQ F [124] u
    ·have HE:=aa (HU.out.symm.trans (LC.stepn nQ hBu.p (t:=u) (by show (if _ then _ else _)=_;rw[aB (by rw[hb];decide)])));have hg4:=fO (F:=F) (c:=41) (by decide) hBu.p;have hB4:=hBu.gd hg4;have hg5:=dY (F:=F) hB4.p;have hB5:=hB4.gd hg5;have hq5:=aA hqu (aA hg4.p hg5.p)
     cases hc:fq F (dK F (eF F 41 u))
     ·have NC1:=aa (fun W1 (h1:Mk g fv F (u) W1)=>fA hF h1 hBu.p [124] (by decide) hb);have NC2:=aa (fun W1 (h1:Mk g fv F (u) W1)=>iH hF h1 (hBu.mono (by omega)) 41 (by decide));have NC3:=aa (fun W1 (h1:Mk g fv F (eF F 41 u) W1)=>fM hF h1 hB4.p);have NC4:=aa (fun W1 (h1:Mk g fv F (dK F (eF F 41 u)) W1)=>me hF h1 hB5.p hc)
      go_wp2_with (first
        | (go_at_call 100;with_reducible refine(NC1.out _ U0.out.m).mono (Mz.k U0 fun nw1 N1=>?_))
        | (go_at_call 260;with_reducible refine(NC2.out _ N1.out.m).mono (Mz.k N1 fun nw2 N2=>?_))
        | (go_at_call 138;with_reducible refine(NC3.out _ N2.out.m).mono (Mz.k N2 fun nw3 N3=>?_))
        | (go_at_call 101;with_reducible refine(NC4.out _ N3.out.m).mono (Mz.k N3 fun nw4 N4=>?_))
        | fail)
      first|go_end0|refine bn ?_
      refine⟨rfl,?_⟩;rw[HT.out];unfold dZ;simp only;rw[HE.out];simp only[hc,bp,aI];exact N4.out
     ·have NC1:=aa (fun W1 (h1:Mk g fv F (u) W1)=>fA hF h1 hBu.p [124] (by decide) hb);have NC2:=aa (fun W1 (h1:Mk g fv F (u) W1)=>iH hF h1 (hBu.mono (by omega)) 41 (by decide));have NC3:=aa (fun W1 (h1:Mk g fv F (eF F 41 u) W1)=>fM hF h1 hB4.p);have NC4:=aa (fun W1 (h1:Mk g fv F (dK F (eF F 41 u)) W1)=>mc hF h1 hB5.p hc);have NC5:=aa (fun W1 (h1:Mk g fv F (dK F (eF F 41 u)) W1)=>wQ hF hL HL h1 hq5 (hB5.mono (by omega)))
      go_wp2_with (first
        | (go_at_call 100;with_reducible refine(NC1.out _ U0.out.m).mono (Mz.k U0 fun nw1 N1=>?_))
        | (go_at_call 260;with_reducible refine(NC2.out _ N1.out.m).mono (Mz.k N1 fun nw2 N2=>?_))
        | (go_at_call 138;with_reducible refine(NC3.out _ N2.out.m).mono (Mz.k N2 fun nw3 N3=>?_))
        | (go_at_call 101;with_reducible refine(NC4.out _ N3.out.m).mono (Mz.k N3 fun nw4 N4=>?_))
        | (go_at_call 58;with_reducible refine(NC5.out _ N4.out.m).mono (Mz.k N4 fun nw5 N5=>?_))
        | fail)
      first|go_end0|refine bn ?_
      refine⟨rfl,?_⟩;rw[HT.out];unfold dZ;simp only;rw[HE.out];simp only[hc,bQ];exact N5.out
    ·have hy:=LC.y (nQ u hBu.p) (t:=eE F (dM u)) (by show (if _ then _ else _)=_;rw[aD hb]);have HE:=aa ((LC.stepy nQ hBu.p (t:=eE F (dM u)) (by show (if _ then _ else _)=_;rw[aD hb])).symm.trans HU.out);have hlt:=eh hb (by decide);have hn1:=hBu.next hlt (by omega);have YC1:=aa (fun W1 (h1:Mk g fv F (u) W1)=>fV hF h1 hBu.p [124] (by decide) hb);have YC2:=aa (fun W1 (h1:Mk g fv F (dM u) W1)=>oH hF h1 (hn1.mono (by omega)))
     go_wp2_with (first
       | (go_at_call 100;with_reducible refine(YC1.out _ U0.out.m).mono (Mz.k U0 fun yw1 Y1=>?_))
       | (go_at_call 259;with_reducible refine(YC2.out _ Y1.out.m).mono (Mz.k Y1 fun yw2 Y2=>?_))
       | fail)
     refine⟨⟨_,aA hqu (bq hy.2),hBu.gd hy.1,HE.out,Y2.out⟩,?_⟩;rw[Y2.out.m.pOf,HP.out]
     have:=hy.2
     have:=hy.1.N
     omega
theorem sV (hF:FB F) (hL:GL F L) (HL:gH g fv F L q) (h:Mk g fv F s W) (hq:q≤s.p) (hB:Bd F 9 s) :
    Calls Tryz.prog 58 #[.pointer (some ⟨g,0,none⟩),.int .i64 15,.func (.func 267) #[.pointer (some ⟨g,0,none⟩)] #[]] W fun e w'=>e=.returned (.tuple #[])∧Mz g fv F W (dO 15 (dZ F L) s) w':=by
  have hi:=hB.inn 15;have hg:=td hL (s:=fC 15 s) hi.p;have hn:=hF.n;have h1:=hg.l;have h2:=hg.N;rw[oL] at h1;exact tX (t:=dZ F L (fC 15 s)) 15 _ h (hB.l5 hF (by omega)) (by omega) (enters_of Tryz.func267 (by kernel_rfl) rfl) (fun W1 h1=>LN hF hL HL h1.m hq hi) (by omega) (by omega)
theorem L9 (F:List Lf) (c:UInt8) (s:Ps):dQ F [c] s=(sg F s.p==c):=by
  unfold dQ;rw[List.contains_cons];simp
theorem kP (hF:FB F) (h:Mk g fv F s W) (hs:s.p≤F.length) (c:UInt8) (hc:c=sg F s.p) :
    Calls Tryz.prog 135 #[.pointer (some ⟨g,0,none⟩),.int .i64 0] W fun e w'=>e=.returned (.int .u8 (c.toNat:Int))∧Mz g fv F W s w':=by
  have c0:=nC hF h hs 0 s.p (by omega) (.inl rfl);rw[←hc] at c0;exact c0.mono fun e w' ⟨h1,h2⟩=>⟨h1,(Mz.start h).next h2⟩
theorem J9 (hF:FB F) (hL:GL F L) (HL:gH g fv F L q) (h:Mk g fv F s W) (hq:q≤s.p) (hB:Bd F 0 s) :
    lD 255 g fv F W (.tuple #[]) (jw F L s):=by
  have hg1:=ie (F:=F) hB.p;have hB1:=hB.gd hg1;have hg2:=dY (F:=F) hB1.p;have hB2:=hB1.gd hg2;have hg3:=fO (F:=F) (c:=107) (by decide) hB2.p;have hB3:=hB2.gd hg3;have hg4:=dY (F:=F) hB3.p;have hB4:=hB3.gd hg4;have hq4:=aA hq (aA hg1.p (aA hg2.p (aA hg3.p hg4.p)));obtain⟨T,hT⟩:∃T,T=jw F L s:=⟨_,rfl⟩;rw[←hT];have HT:=aa hT;clear hT;have HC1:=aa (fun W1 (h1:Mk g fv F (s) W1)=>oH hF h1 (hB.mono (by omega)));have HC2:=aa (fun W1 (h1:Mk g fv F (eE F s) W1)=>fM hF h1 hB1.p);have HC3:=aa (fun W1 (h1:Mk g fv F (dK F (eE F s)) W1)=>iH hF h1 (hB2.mono (by omega)) 107 (by decide));have HC4:=aa (fun W1 (h1:Mk g fv F (eF F 107 (dK F (eE F s))) W1)=>fM hF h1 hB3.p);have H0:=aa (Mz.start h);clear h;go_enter Tryz.func255,Tryz.ntmps255;go_wp2_with fail;go_step3
  go_wp2_with (first
    | (go_at_call 259;with_reducible refine(HC1.out _ H0.out.m).mono (Mz.k H0 fun hw1 H1=>?_))
    | (go_at_call 138;with_reducible refine(HC2.out _ H1.out.m).mono (Mz.k H1 fun hw2 H2=>?_))
    | (go_at_call 260;with_reducible refine(HC3.out _ H2.out.m).mono (Mz.k H2 fun hw3 H3=>?_))
    | (go_at_call 138;with_reducible refine(HC4.out _ H3.out.m).mono (Mz.k H3 fun hw4 H4=>?_))
    | fail)
  go_step3;go_wp2_with fail;go_loopw [] (fun wr=>∃u:Ps,q≤u.p∧Bd F 5 u∧(eO F.length (fun s=>if f7 F s=true then (if dQ F [121] (dO 15 (dZ F L) s)=true then (dK F (dM (dO 15 (dZ F L) s)),true) else (dO 15 (dZ F L) s,false)) else (s,false))) u=(eO F.length (fun s=>if f7 F s=true then (if dQ F [121] (dO 15 (dZ F L) s)=true then (dK F (dM (dO 15 (dZ F L) s)),true) else (dO 15 (dZ F L) s,false)) else (s,false))) (dK F (eF F 107 (dK F (eE F s))))∧Mz g fv F W u wr) (fun wr=>F.length-pOf g wr)
  case atStart=>exact⟨_,hq4,hB4.mono (by omega),rfl,H4.out⟩
  case round=>
    obtain⟨u,hqu,hBu,hlu,hz⟩:=hrel;have U0:=aa hz;have HU:=aa hlu;have hup:=hz.m.pOf;have HP:=aa hup;clear hz hlu hup;have hib:f7 F u=(dQ F [40] u||iM F u.p&&sg F u.p != 122):=by unfold f7;rw[L9]
    cases x1:dQ F [40] u
    ·cases x2:iM F u.p
     ·have hb:f7 F u=false:=by rw[hib,x1,x2];rfl
      clear hib;have HE:=aa (HU.out.symm.trans (LC.stepn (iE hL) hBu.p (t:=u) (by show (if _ then _ else _)=_;rw[aB (by rw[hb];decide)])));have NC1:=aa (fun W1 (h1:Mk g fv F (u) W1)=>qQ hF h1 hBu.p [40] (by decide) x1);have NC2:=aa (fun W1 (h1:Mk g fv F (u) W1)=>gk hF h1 hBu.p x2);have NC3:=aa (fun W1 (h1:Mk g fv F (u) W1)=>iH hF h1 (hBu.mono (by omega)) 122 (by decide))
      go_wp2_with (first
        | (go_at_call 134;with_reducible refine(NC1.out _ U0.out.m).mono (Mz.k U0 fun nw1 N1=>?_))
        | (go_at_call 261;with_reducible refine(NC2.out _ N1.out.m).mono (Mz.k N1 fun nw2 N2=>?_))
        | (go_at_call 260;with_reducible refine(NC3.out _ N2.out.m).mono (Mz.k N2 fun nw3 N3=>?_))
        | fail)
      try rw[bj]
      first|go_end0|refine bn ?_
      refine⟨rfl,?_⟩;rw[HT.out];unfold jw;rw[HE.out];exact N3.out
     ·obtain⟨c,hc3⟩:∃c,c=sg F u.p:=⟨_,rfl⟩;rw[x1,x2,←hc3] at hib;have HC3:=aa hc3;clear hc3;by_cases h9:c=122
      ·have hb:f7 F u=false:=by rw[hib];simp[h9]
       have k9:((c.toNat:Int)==122)=true:=by rw[show ((c.toNat:Int)==122)=(c==122) from i7 c 122];simp[h9]
       have k8:((c.toNat:Int)!=122)=false:=by rw[bne,k9];rfl
       clear hib h9;have HE:=aa (HU.out.symm.trans (LC.stepn (iE hL) hBu.p (t:=u) (by show (if _ then _ else _)=_;rw[aB (by rw[hb];decide)])));have NC1:=aa (fun W1 (h1:Mk g fv F (u) W1)=>qQ hF h1 hBu.p [40] (by decide) x1);have NC2:=aa (fun W1 (h1:Mk g fv F (u) W1)=>iR hF h1 hBu.p x2);have NC3:=aa (fun W1 (h1:Mk g fv F (u) W1)=>kP hF h1 hBu.p c HC3.out);have NC4:=aa (fun W1 (h1:Mk g fv F (u) W1)=>iH hF h1 (hBu.mono (by omega)) 122 (by decide))
       go_wp2_with (first
         | (go_at_call 134;with_reducible refine(NC1.out _ U0.out.m).mono (Mz.k U0 fun nw1 N1=>?_))
         | (go_at_call 261;with_reducible refine(NC2.out _ N1.out.m).mono (Mz.k N1 fun nw2 N2=>?_))
         | (go_at_call 135;with_reducible refine(NC3.out _ N2.out.m).mono (Mz.k N2 fun nw3 N3=>?_))
         | (go_at_call 260;with_reducible refine(NC4.out _ N3.out.m).mono (Mz.k N3 fun nw4 N4=>?_))
         | fail)
       try rw[bj]
       first|go_end0|refine bn ?_
       refine⟨rfl,?_⟩;rw[HT.out];unfold jw;rw[HE.out];exact N4.out
      ·have hb:f7 F u=true:=by rw[hib];simp[h9]
       have k9:((c.toNat:Int)==122)=false:=by rw[show ((c.toNat:Int)==122)=(c==122) from i7 c 122];exact aJ h9
       have k8:((c.toNat:Int)!=122)=true:=by rw[bne,k9];rfl
       clear hib h9;have hg6:=(qI hL hb).1;have hB6:=hBu.gd hg6;have hq6:=aA hqu hg6.p
       cases hc:dQ F [121] (dO 15 (dZ F L) u)
       ·have HE:=aa (HU.out.symm.trans (LC.stepn (iE hL) hBu.p (t:=dO 15 (dZ F L) u) (by show (if _ then (if _ then _ else _) else _)=_;rw[aD hb,aB (by rw[hc];decide)])));have NC1:=aa (fun W1 (h1:Mk g fv F (u) W1)=>qQ hF h1 hBu.p [40] (by decide) x1);have NC2:=aa (fun W1 (h1:Mk g fv F (u) W1)=>iR hF h1 hBu.p x2);have NC3:=aa (fun W1 (h1:Mk g fv F (u) W1)=>kP hF h1 hBu.p c HC3.out);have NC4:=aa (fun W1 (h1:Mk g fv F (u) W1)=>sV hF hL HL h1 hqu (hBu.mono (by omega)));have NC5:=aa (fun W1 (h1:Mk g fv F (dO 15 (dZ F L) u) W1)=>fA hF h1 hB6.p [121] (by decide) hc);have NC6:=aa (fun W1 (h1:Mk g fv F (dO 15 (dZ F L) u) W1)=>iH hF h1 (hB6.mono (by omega)) 122 (by decide))
        go_wp2_with (first
          | (go_at_call 134;with_reducible refine(NC1.out _ U0.out.m).mono (Mz.k U0 fun nw1 N1=>?_))
          | (go_at_call 261;with_reducible refine(NC2.out _ N1.out.m).mono (Mz.k N1 fun nw2 N2=>?_))
          | (go_at_call 135;with_reducible refine(NC3.out _ N2.out.m).mono (Mz.k N2 fun nw3 N3=>?_))
          | (go_at_call 58;with_reducible refine(NC4.out _ N3.out.m).mono (Mz.k N3 fun nw4 N4=>?_))
          | (go_at_call 100;with_reducible refine(NC5.out _ N4.out.m).mono (Mz.k N4 fun nw5 N5=>?_))
          | (go_at_call 260;with_reducible refine(NC6.out _ N5.out.m).mono (Mz.k N5 fun nw6 N6=>?_))
          | fail)
        try rw[bj]
        first|go_end0|refine bn ?_
        refine⟨rfl,?_⟩;rw[HT.out];unfold jw;rw[HE.out];exact N6.out
       ·have hlt:=eh hc (by decide);have hn7:=hB6.next hlt (by omega);have he:(if f7 F u=true then (if dQ F [121] (dO 15 (dZ F L) u)=true then (dK F (dM (dO 15 (dZ F L) u)),true) else (dO 15 (dZ F L) u,false)) else (u,false))=(dK F (dM (dO 15 (dZ F L) u)),true):=by rw[aD hb,aD hc]
        have hy:=LC.y (iE hL u hBu.p) (t:=dK F (dM (dO 15 (dZ F L) u))) he;have HE:=aa ((LC.stepy (iE hL) hBu.p (t:=dK F (dM (dO 15 (dZ F L) u))) he).symm.trans HU.out);clear he;have YC1:=aa (fun W1 (h1:Mk g fv F (u) W1)=>qQ hF h1 hBu.p [40] (by decide) x1);have YC2:=aa (fun W1 (h1:Mk g fv F (u) W1)=>iR hF h1 hBu.p x2);have YC3:=aa (fun W1 (h1:Mk g fv F (u) W1)=>kP hF h1 hBu.p c HC3.out);have YC4:=aa (fun W1 (h1:Mk g fv F (u) W1)=>sV hF hL HL h1 hqu (hBu.mono (by omega)));have YC5:=aa (fun W1 (h1:Mk g fv F (dO 15 (dZ F L) u) W1)=>fV hF h1 hB6.p [121] (by decide) hc);have YC6:=aa (fun W1 (h1:Mk g fv F (dM (dO 15 (dZ F L) u)) W1)=>fM hF h1 hn7.p)
        go_wp2_with (first
          | (go_at_call 134;with_reducible refine(YC1.out _ U0.out.m).mono (Mz.k U0 fun yw1 Y1=>?_))
          | (go_at_call 261;with_reducible refine(YC2.out _ Y1.out.m).mono (Mz.k Y1 fun yw2 Y2=>?_))
          | (go_at_call 135;with_reducible refine(YC3.out _ Y2.out.m).mono (Mz.k Y2 fun yw3 Y3=>?_))
          | (go_at_call 58;with_reducible refine(YC4.out _ Y3.out.m).mono (Mz.k Y3 fun yw4 Y4=>?_))
          | (go_at_call 100;with_reducible refine(YC5.out _ Y4.out.m).mono (Mz.k Y4 fun yw5 Y5=>?_))
          | (go_at_call 138;with_reducible refine(YC6.out _ Y5.out.m).mono (Mz.k Y5 fun yw6 Y6=>?_))
          | fail)
        refine⟨⟨_,aA hqu (bq hy.2),hBu.gd hy.1,HE.out,Y6.out⟩,?_⟩;rw[Y6.out.m.pOf,HP.out]
        have:=hy.2
        have:=hy.1.N
        omega
    ·have hb:f7 F u=true:=by rw[hib,x1];rfl
     clear hib;have hg6:=(qI hL hb).1;have hB6:=hBu.gd hg6;have hq6:=aA hqu hg6.p
     cases hc:dQ F [121] (dO 15 (dZ F L) u)
     ·have HE:=aa (HU.out.symm.trans (LC.stepn (iE hL) hBu.p (t:=dO 15 (dZ F L) u) (by show (if _ then (if _ then _ else _) else _)=_;rw[aD hb,aB (by rw[hc];decide)])));have NC1:=aa (fun W1 (h1:Mk g fv F (u) W1)=>zI hF h1 hBu.p [40] (by decide) x1);have NC2:=aa (fun W1 (h1:Mk g fv F (u) W1)=>sV hF hL HL h1 hqu (hBu.mono (by omega)));have NC3:=aa (fun W1 (h1:Mk g fv F (dO 15 (dZ F L) u) W1)=>fA hF h1 hB6.p [121] (by decide) hc);have NC4:=aa (fun W1 (h1:Mk g fv F (dO 15 (dZ F L) u) W1)=>iH hF h1 (hB6.mono (by omega)) 122 (by decide))
      go_wp2_with (first
        | (go_at_call 134;with_reducible refine(NC1.out _ U0.out.m).mono (Mz.k U0 fun nw1 N1=>?_))
        | (go_at_call 58;with_reducible refine(NC2.out _ N1.out.m).mono (Mz.k N1 fun nw2 N2=>?_))
        | (go_at_call 100;with_reducible refine(NC3.out _ N2.out.m).mono (Mz.k N2 fun nw3 N3=>?_))
        | (go_at_call 260;with_reducible refine(NC4.out _ N3.out.m).mono (Mz.k N3 fun nw4 N4=>?_))
        | fail)
      try rw[bj]
      first|go_end0|refine bn ?_
      refine⟨rfl,?_⟩;rw[HT.out];unfold jw;rw[HE.out];exact N4.out
     ·have hlt:=eh hc (by decide);have hn7:=hB6.next hlt (by omega);have he:(if f7 F u=true then (if dQ F [121] (dO 15 (dZ F L) u)=true then (dK F (dM (dO 15 (dZ F L) u)),true) else (dO 15 (dZ F L) u,false)) else (u,false))=(dK F (dM (dO 15 (dZ F L) u)),true):=by rw[aD hb,aD hc]
      have hy:=LC.y (iE hL u hBu.p) (t:=dK F (dM (dO 15 (dZ F L) u))) he;have HE:=aa ((LC.stepy (iE hL) hBu.p (t:=dK F (dM (dO 15 (dZ F L) u))) he).symm.trans HU.out);clear he;have YC1:=aa (fun W1 (h1:Mk g fv F (u) W1)=>zI hF h1 hBu.p [40] (by decide) x1);have YC2:=aa (fun W1 (h1:Mk g fv F (u) W1)=>sV hF hL HL h1 hqu (hBu.mono (by omega)));have YC3:=aa (fun W1 (h1:Mk g fv F (dO 15 (dZ F L) u) W1)=>fV hF h1 hB6.p [121] (by decide) hc);have YC4:=aa (fun W1 (h1:Mk g fv F (dM (dO 15 (dZ F L) u)) W1)=>fM hF h1 hn7.p)
      go_wp2_with (first
        | (go_at_call 134;with_reducible refine(YC1.out _ U0.out.m).mono (Mz.k U0 fun yw1 Y1=>?_))
        | (go_at_call 58;with_reducible refine(YC2.out _ Y1.out.m).mono (Mz.k Y1 fun yw2 Y2=>?_))
        | (go_at_call 100;with_reducible refine(YC3.out _ Y2.out.m).mono (Mz.k Y2 fun yw3 Y3=>?_))
        | (go_at_call 138;with_reducible refine(YC4.out _ Y3.out.m).mono (Mz.k Y3 fun yw4 Y4=>?_))
        | fail)
      refine⟨⟨_,aA hqu (bq hy.2),hBu.gd hy.1,HE.out,Y4.out⟩,?_⟩;rw[Y4.out.m.pOf,HP.out]
      have:=hy.2
      have:=hy.1.N
      omega
theorem zC (hF:FB F) (h:Mk g fv F s W) (hs:s.p<F.length) (hB:Bd F 14 t) (hb:Bk W bx 86 #[.pointer (some ⟨g,0,none⟩)]) (hm:Bk W by_ 1 #[.func (.func fX) #[.pointer (some ⟨g,0,none⟩)] #[]]) (eg:∀args w,(callFunc fX args).run Tryz.prog w=.ok (.enter fX args) w) (hX:∀W1,Mk g fv F (dM s) W1→Calls Tryz.prog fX #[.pointer (some ⟨g,0,none⟩)] W1 fun e w'=>e=.returned (.tuple #[])∧Mz g fv F W1 t w') :
    Calls Tryz.prog 256 #[.pointer (some ⟨bx,0,none⟩),.pointer (some ⟨by_,0,none⟩)] W fun e w'=>e=.returned (.tuple #[])∧Mz g fv F W (gw F t) w':=by
  have hn:=hF.n;have v1:IntKind.i64.wrap ((s.p:Int)+1)=((s.p+1:Nat):Int):=by rw[aS _ (by omega)];omega
  obtain⟨c0,c1,c3,c4,f1,f2,f3,f4⟩:=h.cells;have b0:=hb.cell 0;have m0:W.cell? ⟨by_,0,none⟩=some (.func (.func fX) #[.pointer (some ⟨g,0,none⟩)] #[]):=hm.cell 0;have HBX:=aa hb;have HM:=aa hm;have HX:=aa hX;have H0:=aa (Mz.start h);clear h hb hm hX;go_enter Tryz.func256,Tryz.ntmps256;go_upto_region 1 with fail
  have h1:=H0.out.setP (s.p+1);rw[show ((s.p+1:Nat):Int)=(s.p:Int)+1 by omega] at h1;have H1:=aa h1;clear h1;have b1:=(Bk.kt HBX.out H1.out.f.kt (by decide)).cell 0;have m1:_=some (Value.func (.func fX) #[.pointer (some ⟨g,0,none⟩)] #[]):=(Bk.kt HM.out H1.out.f.kt (by decide)).cell 0;clear b0 m0 c0 c1 c3 c4 f1 f2 f3 f4;generalize W.setCell {block:=g,off:=1} (Value.int IntKind.i64 ((s.p:Int)+1))=W1 at *;have H1n:Mz g fv F W (dM s) W1:=H1.out;replace H1:=aa H1n;clear H1n;go_wp2_with (
    (with_reducible refine(HX.out _ H1.out.m).mono ?_
     rintro e w2 ⟨rfl,hz⟩;have H2:=aa (H1.out.then hz);have b0:=(Bk.kt HBX.out H2.out.f.kt (by decide)).cell 0;clear hz))
  go_loopw [] (fun wr=>∃u:Ps,Bd F 14 u∧(eO F.length (fun s=>if eK F s=true then (fI F s,true) else (s,false))) u=(eO F.length (fun s=>if eK F s=true then (fI F s,true) else (s,false))) t∧Mz g fv F W u wr) (fun wr=>F.length-pOf g wr)
  case atStart=>exact⟨_,hB,rfl,H2.out⟩
  case round=>
    obtain⟨u,hBu,hlu,hz⟩:=hrel;have U0:=aa hz;have HU:=aa hlu;have hup:=hz.m.pOf;have HP:=aa hup;have b0:=(Bk.kt HBX.out U0.out.f.kt (by decide)).cell 0;clear hz hlu hup
    cases hb:eK F u
    ·have HE:=aa (HU.out.symm.trans (LC.stepn jU hBu.p (t:=u) (by show (if _ then _ else _)=_;rw[aB (by rw[hb];decide)])));have HC1:=aa (fun W1 (h1:Mk g fv F u W1)=>jV hF h1 (hBu.mono (by omega)) hb);go_wp2_with (
       (go_at_call 257;with_reducible refine(HC1.out _ U0.out.m).mono (Mz.k U0 fun w3 U1=>?_)))
     first|go_end0|refine bn ?_
     refine⟨rfl,?_⟩;unfold gw;rw[HE.out];exact U1.out
    ·have hy:=LC.y (jU u hBu.p) (t:=fI F u) (by show (if _ then _ else _)=_;rw[aD hb]);have HE:=aa ((LC.stepy jU hBu.p (t:=fI F u) (by show (if _ then _ else _)=_;rw[aD hb])).symm.trans HU.out);have HC1:=aa (fun W1 (h1:Mk g fv F u W1)=>rZ hF h1 (hBu.mono (by omega)) hb);go_wp2_with (
       (go_at_call 257;with_reducible refine(HC1.out _ U0.out.m).mono (Mz.k U0 fun w3 U1=>?_)))
     refine⟨⟨_,hBu.gd hy.1,HE.out,U1.out⟩,?_⟩;rw[U1.out.m.pOf,HP.out]
     have:=hy.2
     have:=hy.1.N
     omega
end Go.Proofs.YtcagfamdoaoimaaGreatDoor
