/- The parser: bodies, braces, loops. -/
import Derived.Test.YtmclohkaiemnaaaGreatDoorPm13
set_option linter.unusedVariables false
set_option linter.unusedSimpArgs false
set_option maxRecDepth 100000
set_option maxHeartbeats 8000000
namespace Go.Proofs.YtmclohkaiemnaaaGreatDoor
open Go.RowKit
variable {F:List Lf} {g q N B bx by_ fX:Nat} {s t:Ps} {r:Ps×Bool} {L:Ps→Ps} {c:Ps→Ps×Bool} {fv:Value} {W:World}
def ia (g:Nat) (fv:Value) (F:List Lf) (L:Ps→Ps) (q:Nat):Prop:=∀(s:Ps) (W:World),q≤s.p→Bd F 20 s→Mk g fv F s W →
  lw 74 g fv F W (.tuple #[]) (L s)
theorem ww (hF:FB F) (hL:GL F L) (HL:ia g fv F L q) (h:Mk g fv F s W) (hq:q≤s.p) (hB:Bd F 19 s) :
    Calls Tryz.prog 51 #[.pointer (some ⟨g,0,none⟩),.int .i64 2,.func (.func 74) #[.pointer (some ⟨g,0,none⟩)] #[]] W fun e w'=>e=.returned (.tuple #[])∧Mz g fv F W (eh 2 L s) w':=by
  have hi:=hB.inn 2;have hg:=hL (fG 2 s) hi.p;have hn:=hF.n;have h1:=hg.l;have h2:=hg.N;rw[oH] at h1;exact tD (t:=L (fG 2 s)) 2 _ h (hB.l5 hF (by omega)) (by omega) (enters_of Tryz.func74 (by kernel_rfl) rfl) (fun W1 h1=>HL _ W1 hq hi h1.m) (by omega) (by omega)
theorem mX (hF:FB F) (hL:GL F L) (HL:ia g fv F L q) (h:Mk g fv F s W) (hq:q≤s.p) (hB:Bd F 14 s) :
    lw 199 g fv F W (.tuple #[]) (eI F L s):=by
  have hB1:=hB.gd (ej hB.p);have hq1:q≤(dW F s).p:=aA hq (ej (F:=F) hB.p).p;unfold eI
  cases hb:eN F (dW F s)
  ·have HC1:=ac (fun W1 (h1:Mk g fv F (s) W1)=>fT hF h1 hB.p);have HC2:=ac (fun W1 (h1:Mk g fv F (dW F s) W1)=>mh hF h1 hB1.p hb);have HC3:=ac (fun W1 (h1:Mk g fv F (dW F s) W1)=>gz hF h1 (hB1.mono (by omega)));have H0:=ac (Mz.start h);clear h;go_enter Tryz.func199,Tryz.ntmps199
   go_wp2_with (first
     | (go_at_call 92;with_reducible refine(HC1.out _ H0.out.m).mono (Mz.k H0 fun hw1 H1=>?_))
     | (go_at_call 39;with_reducible refine(HC2.out _ H1.out.m).mono (Mz.k H1 fun hw2 H2=>?_))
     | (go_at_call 120;with_reducible refine(HC3.out _ H2.out.m).mono (Mz.k H2 fun hw3 H3=>?_))
     | fail)
   first|go_end0|refine bn ?_
   exact⟨rfl,H3.out⟩
  ·have HC1:=ac (fun W1 (h1:Mk g fv F (s) W1)=>fT hF h1 hB.p);have HC2:=ac (fun W1 (h1:Mk g fv F (dW F s) W1)=>mg hF h1 hB1.p hb);have HC3:=ac (fun W1 (h1:Mk g fv F (dW F s) W1)=>ww hF hL HL h1 hq1 (hB1.mono (by omega)));have H0:=ac (Mz.start h);clear h;go_enter Tryz.func199,Tryz.ntmps199
   go_wp2_with (first
     | (go_at_call 92;with_reducible refine(HC1.out _ H0.out.m).mono (Mz.k H0 fun hw1 H1=>?_))
     | (go_at_call 39;with_reducible refine(HC2.out _ H1.out.m).mono (Mz.k H1 fun hw2 H2=>?_))
     | (go_at_call 51;with_reducible refine(HC3.out _ H2.out.m).mono (Mz.k H2 fun hw3 H3=>?_))
     | fail)
   first|go_end0|refine bn ?_
   exact⟨rfl,H3.out⟩
theorem Kl (hF:FB F) (hL:GL F L) (HL:ia g fv F L q) (h:Mk g fv F s W) (hq:q≤s.p) (hB:Bd F 0 s) :
    lw 172 g fv F W (.tuple #[]) (eE F 125 (eI F L s)):=by
  have hB1:=hB.gd (fy hL hB.p);have HC1:=ac (fun W1 (h1:Mk g fv F (s) W1)=>mX hF hL HL h1 hq (hB.mono (by omega)));have HC2:=ac (fun W1 (h1:Mk g fv F (eI F L s) W1)=>iS hF h1 (hB1.mono (by omega)) 125 (by decide));have H0:=ac (Mz.start h);clear h;go_enter Tryz.func172,Tryz.ntmps172
  go_wp2_with (first
    | (go_at_call 199;with_reducible refine(HC1.out _ H0.out.m).mono (Mz.k H0 fun hw1 H1=>?_))
    | (go_at_call 182;with_reducible refine(HC2.out _ H1.out.m).mono (Mz.k H1 fun hw2 H2=>?_))
    | fail)
  first|go_end0|refine bn ?_
  exact⟨rfl,H2.out⟩
theorem zI (hF:FB F) (hL:GL F L) (HL:ia g fv F L q) (h:Mk g fv F s W) (hq:q≤s.p) (hB:Bd F 0 s) :
    lw 173 g fv F W (.tuple #[]) (eE F 41 (eI F L s)):=by
  have hB1:=hB.gd (fy hL hB.p);have HC1:=ac (fun W1 (h1:Mk g fv F (s) W1)=>mX hF hL HL h1 hq (hB.mono (by omega)));have HC2:=ac (fun W1 (h1:Mk g fv F (eI F L s) W1)=>iS hF h1 (hB1.mono (by omega)) 41 (by decide));have H0:=ac (Mz.start h);clear h;go_enter Tryz.func173,Tryz.ntmps173
  go_wp2_with (first
    | (go_at_call 199;with_reducible refine(HC1.out _ H0.out.m).mono (Mz.k H0 fun hw1 H1=>?_))
    | (go_at_call 182;with_reducible refine(HC2.out _ H1.out.m).mono (Mz.k H1 fun hw2 H2=>?_))
    | fail)
  first|go_end0|refine bn ?_
  exact⟨rfl,H2.out⟩
theorem jg (hF:FB F) (hL:GL F L) (HL:ia g fv F L q) (h:Mk g fv F s W) (hq:q≤s.p) (hB:Bd F 9 s) :
    lw 200 g fv F W (.tuple #[]) (vp F L s):=by
  have hg1:=fp (F:=F) (c:=100) (by decide) hB.p;have hB1:=hB.gd hg1;have hq1:=aA hq hg1.p;have hB2:=hB1.gd (fy hL hB1.p);have HC1:=ac (fun W1 (h1:Mk g fv F (s) W1)=>iS hF h1 (hB.mono (by omega)) 100 (by decide));have HC2:=ac (fun W1 (h1:Mk g fv F (eE F 100 s) W1)=>mX hF hL HL h1 hq1 (hB1.mono (by omega)));have HC3:=ac (fun W1 (h1:Mk g fv F (eI F L (eE F 100 s)) W1)=>iS hF h1 (hB2.mono (by omega)) 103 (by decide));have H0:=ac (Mz.start h);clear h;go_enter Tryz.func200,Tryz.ntmps200
  go_wp2_with (first
    | (go_at_call 182;with_reducible refine(HC1.out _ H0.out.m).mono (Mz.k H0 fun hw1 H1=>?_))
    | (go_at_call 199;with_reducible refine(HC2.out _ H1.out.m).mono (Mz.k H1 fun hw2 H2=>?_))
    | (go_at_call 182;with_reducible refine(HC3.out _ H2.out.m).mono (Mz.k H2 fun hw3 H3=>?_))
    | fail)
  first|go_end0|refine bn ?_
  exact⟨rfl,H3.out⟩
theorem Mc (hF:FB F) (hL:GL F L) (HL:ia g fv F L q) (h:Mk g fv F s W) (hq:q≤s.p) (hB:Bd F 0 s) :
    lw 175 g fv F W (.tuple #[]) (vp F L (eI F L s)):=by
  have hg1:=fy hL hB.p;have hB1:=hB.gd hg1;have hq1:=aA hq hg1.p;have HC1:=ac (fun W1 (h1:Mk g fv F (s) W1)=>mX hF hL HL h1 hq (hB.mono (by omega)));have HC2:=ac (fun W1 (h1:Mk g fv F (eI F L s) W1)=>jg hF hL HL h1 hq1 (hB1.mono (by omega)));have H0:=ac (Mz.start h);clear h;go_enter Tryz.func175,Tryz.ntmps175
  go_wp2_with (first
    | (go_at_call 199;with_reducible refine(HC1.out _ H0.out.m).mono (Mz.k H0 fun hw1 H1=>?_))
    | (go_at_call 200;with_reducible refine(HC2.out _ H1.out.m).mono (Mz.k H1 fun hw2 H2=>?_))
    | fail)
  first|go_end0|refine bn ?_
  exact⟨rfl,H2.out⟩
theorem LC.y (h:LC N B s r) (e:r=(t,true)):Gd N 0 s t∧s.p<t.p:=by rw[e] at h;exact h.1 rfl
theorem LC.stepy (h:∀s,s.p≤N→LC N B s (c s)) (hs:s.p≤N) (e:c s=(t,true)):eV N c s=eV N c t:=by
  have h1:=LC.eq h s hs;simp only[e,bP] at h1;exact h1
theorem LC.stepn (h:∀s,s.p≤N→LC N B s (c s)) (hs:s.p≤N) (e:c s=(t,false)):eV N c s=t:=by
  have h1:=LC.eq h s hs;simp only[e,bp,aH] at h1;exact h1
theorem AP (hF:FB F) (hL:GL F L) (HL:ia g fv F L q) (h:Mk g fv F s W) (hq:q≤s.p) (hB:Bd F 0 s) :
    lw 174 g fv F W (.tuple #[]) (ki F L s):=by
  have hg1:=fy hL hB.p;have hB1:=hB.gd hg1;have hq1:=aA hq hg1.p;have hg2:=fp (F:=F) (c:=116) (by decide) hB1.p;have hB2:=hB1.gd hg2;have hq2:=aA hq1 hg2.p;have hg3:=fy hL hB2.p;have hB3:=hB2.gd hg3;have hq3:=aA hq2 hg3.p;obtain⟨T,hT⟩:∃T,T=ki F L s:=⟨_,rfl⟩;rw[←hT];have HT:=ac hT;clear hT;have HC1:=ac (fun W1 (h1:Mk g fv F (s) W1)=>mX hF hL HL h1 hq (hB.mono (by omega)));have HC2:=ac (fun W1 (h1:Mk g fv F (eI F L s) W1)=>iS hF h1 (hB1.mono (by omega)) 116 (by decide));have HC3:=ac (fun W1 (h1:Mk g fv F (eE F 116 (eI F L s)) W1)=>mX hF hL HL h1 hq2 (hB2.mono (by omega)));have H0:=ac (Mz.start h);clear h;go_enter Tryz.func174,Tryz.ntmps174
  go_wp2_with (first
    | (go_at_call 199;with_reducible refine(HC1.out _ H0.out.m).mono (Mz.k H0 fun hw1 H1=>?_))
    | (go_at_call 182;with_reducible refine(HC2.out _ H1.out.m).mono (Mz.k H1 fun hw2 H2=>?_))
    | (go_at_call 199;with_reducible refine(HC3.out _ H2.out.m).mono (Mz.k H2 fun hw3 H3=>?_))
    | fail)
  go_loopw [] (fun wr=>∃u:Ps,q≤u.p∧Bd F 9 u∧(eV F.length (fun s=>if ef F [101] s=true then (eI F L (eE F 116 (eI F L (dY s))),true) else (s,false))) u=(eV F.length (fun s=>if ef F [101] s=true then (eI F L (eE F 116 (eI F L (dY s))),true) else (s,false))) (eI F L (eE F 116 (eI F L s)))∧Mz g fv F W u wr) (fun wr=>F.length-pOf g wr)
  case atStart=>exact⟨_,hq3,hB3,rfl,H3.out⟩
  case round=>
    obtain⟨u,hqu,hBu,hlu,hz⟩:=hrel;have U0:=ac hz;have HU:=ac hlu;have hup:=hz.m.pOf;have HP:=ac hup;clear hz hlu hup
    cases hb:ef F [101] u
    ·have HE:=ac (HU.out.symm.trans (LC.stepn (iZ hL) hBu.p (t:=u) (by show (if _ then _ else _)=_;rw[aC (by rw[hb];decide)])))
     cases hc:ef F [108] u
     ·have NC1:=ac (fun W1 (h1:Mk g fv F (u) W1)=>fE hF h1 hBu.p [101] (by decide) hb);have NC2:=ac (fun W1 (h1:Mk g fv F (u) W1)=>fE hF h1 hBu.p [108] (by decide) hc);have NC3:=ac (fun W1 (h1:Mk g fv F (u) W1)=>iS hF h1 (hBu.mono (by omega)) 102 (by decide))
      go_wp2_with (first
        | (go_at_call 73;with_reducible refine(NC1.out _ U0.out.m).mono (Mz.k U0 fun nw1 N1=>?_))
        | (go_at_call 73;with_reducible refine(NC2.out _ N1.out.m).mono (Mz.k N1 fun nw2 N2=>?_))
        | (go_at_call 182;with_reducible refine(NC3.out _ N2.out.m).mono (Mz.k N2 fun nw3 N3=>?_))
        | fail)
      first|go_end0|refine bn ?_
      refine⟨rfl,?_⟩;rw[HT.out];unfold ki;simp only;rw[HE.out];simp only[hc,bp,aH];exact N3.out
     ·have hlt:=er hc (by decide);have hn2:=hBu.next hlt (by omega);have hq7:q≤(dY u).p:=aA hqu (bW _);have hg8:=fy hL hn2.p;have hB8:=hn2.gd hg8;have NC1:=ac (fun W1 (h1:Mk g fv F (u) W1)=>fE hF h1 hBu.p [101] (by decide) hb);have NC2:=ac (fun W1 (h1:Mk g fv F (u) W1)=>gD hF h1 hBu.p [108] (by decide) hc);have NC3:=ac (fun W1 (h1:Mk g fv F (dY u) W1)=>mX hF hL HL h1 hq7 (hn2.mono (by omega)));have NC4:=ac (fun W1 (h1:Mk g fv F (eI F L (dY u)) W1)=>iS hF h1 (hB8.mono (by omega)) 102 (by decide))
      go_wp2_with (first
        | (go_at_call 73;with_reducible refine(NC1.out _ U0.out.m).mono (Mz.k U0 fun nw1 N1=>?_))
        | (go_at_call 73;with_reducible refine(NC2.out _ N1.out.m).mono (Mz.k N1 fun nw2 N2=>?_))
        | (go_at_call 199;with_reducible refine(NC3.out _ N2.out.m).mono (Mz.k N2 fun nw3 N3=>?_))
        | (go_at_call 182;with_reducible refine(NC4.out _ N3.out.m).mono (Mz.k N3 fun nw4 N4=>?_))
        | fail)
      first|go_end0|refine bn ?_
      refine⟨rfl,?_⟩;rw[HT.out];unfold ki;simp only;rw[HE.out];simp only[hc,bP];exact N4.out
    ·have hy:=LC.y ((iZ hL) u hBu.p) (t:=eI F L (eE F 116 (eI F L (dY u)))) (by show (if _ then _ else _)=_;rw[aB hb]);have HE:=ac ((LC.stepy (iZ hL) hBu.p (t:=eI F L (eE F 116 (eI F L (dY u)))) (by show (if _ then _ else _)=_;rw[aB hb])).symm.trans HU.out);have hlt:=er hb (by decide);have hn1:=hBu.next hlt (by omega);have hq4:q≤(dY u).p:=aA hqu (bW _);have hg4:=fy hL hn1.p;have hB4:=hn1.gd hg4;have hq5:=aA hq4 hg4.p;have hg5:=fp (F:=F) (c:=116) (by decide) hB4.p;have hB5:=hB4.gd hg5;have hq6:=aA hq5 hg5.p;have YC1:=ac (fun W1 (h1:Mk g fv F (u) W1)=>gD hF h1 hBu.p [101] (by decide) hb);have YC2:=ac (fun W1 (h1:Mk g fv F (dY u) W1)=>mX hF hL HL h1 hq4 (hn1.mono (by omega)));have YC3:=ac (fun W1 (h1:Mk g fv F (eI F L (dY u)) W1)=>iS hF h1 (hB4.mono (by omega)) 116 (by decide));have YC4:=ac (fun W1 (h1:Mk g fv F (eE F 116 (eI F L (dY u))) W1)=>mX hF hL HL h1 hq6 (hB5.mono (by omega)))
     go_wp2_with (first
       | (go_at_call 73;with_reducible refine(YC1.out _ U0.out.m).mono (Mz.k U0 fun yw1 Y1=>?_))
       | (go_at_call 199;with_reducible refine(YC2.out _ Y1.out.m).mono (Mz.k Y1 fun yw2 Y2=>?_))
       | (go_at_call 182;with_reducible refine(YC3.out _ Y2.out.m).mono (Mz.k Y2 fun yw3 Y3=>?_))
       | (go_at_call 199;with_reducible refine(YC4.out _ Y3.out.m).mono (Mz.k Y3 fun yw4 Y4=>?_))
       | fail)
     refine⟨⟨_,aA hqu (aM hy.2),hBu.gd hy.1,HE.out,Y4.out⟩,?_⟩;rw[Y4.out.m.pOf,HP.out]
     have:=hy.2
     have:=hy.1.N
     omega
theorem Mg (hF:FB F) (hL:GL F L) (HL:ia g fv F L q) (h:Mk g fv F s W) (hq:q≤s.p) (hB:Bd F 10 s) :
    lw 201 g fv F W (.tuple #[]) (eB F L s):=by
  have hg1:=fJ (F:=F) (cs:=[40]) (by decide) hB.p;have hB1:=hB.gd hg1;have hg2:=gK (F:=F) hB1.p;have hB2:=hB1.gd hg2;have hq2:=aA hq (aA hg1.p hg2.p);obtain⟨T,hT⟩:∃T,T=eB F L s:=⟨_,rfl⟩;rw[←hT];have HT:=ac hT;clear hT;have HC1:=ac (fun W1 (h1:Mk g fv F (s) W1)=>lU hF h1 hB.p [40] (by decide));have HC2:=ac (fun W1 (h1:Mk g fv F (eG F [40] s) W1)=>oE hF h1 (hB1.mono (by omega)));have H0:=ac (Mz.start h);clear h;go_enter Tryz.func201,Tryz.ntmps201
  go_wp2_with (first
    | (go_at_call 73;with_reducible refine(HC1.out _ H0.out.m).mono (Mz.k H0 fun hw1 H1=>?_))
    | (go_at_call 181;with_reducible refine(HC2.out _ H1.out.m).mono (Mz.k H1 fun hw2 H2=>?_))
    | fail)
  go_loopw [] (fun wr=>∃u:Ps,q≤u.p∧Bd F 11 u∧(eV F.length (fun s=>if ef F [124] s=true then (eK F (dY s),true) else (s,false))) u=(eV F.length (fun s=>if ef F [124] s=true then (eK F (dY s),true) else (s,false))) (eK F (eG F [40] s))∧Mz g fv F W u wr) (fun wr=>F.length-pOf g wr)
  case atStart=>exact⟨_,hq2,hB2,rfl,H2.out⟩
  case round=>
    obtain⟨u,hqu,hBu,hlu,hz⟩:=hrel;have U0:=ac hz;have HU:=ac hlu;have hup:=hz.m.pOf;have HP:=ac hup;clear hz hlu hup
    cases hb:ef F [124] u
    ·have HE:=ac (HU.out.symm.trans (LC.stepn ke hBu.p (t:=u) (by show (if _ then _ else _)=_;rw[aC (by rw[hb];decide)])));have hg4:=fp (F:=F) (c:=41) (by decide) hBu.p;have hB4:=hBu.gd hg4;have hg5:=ej (F:=F) hB4.p;have hB5:=hB4.gd hg5;have hq5:=aA hqu (aA hg4.p hg5.p)
     cases hc:eN F (dW F (eE F 41 u))
     ·have NC1:=ac (fun W1 (h1:Mk g fv F (u) W1)=>fE hF h1 hBu.p [124] (by decide) hb);have NC2:=ac (fun W1 (h1:Mk g fv F (u) W1)=>iS hF h1 (hBu.mono (by omega)) 41 (by decide));have NC3:=ac (fun W1 (h1:Mk g fv F (eE F 41 u) W1)=>fT hF h1 hB4.p);have NC4:=ac (fun W1 (h1:Mk g fv F (dW F (eE F 41 u)) W1)=>mh hF h1 hB5.p hc)
      go_wp2_with (first
        | (go_at_call 73;with_reducible refine(NC1.out _ U0.out.m).mono (Mz.k U0 fun nw1 N1=>?_))
        | (go_at_call 182;with_reducible refine(NC2.out _ N1.out.m).mono (Mz.k N1 fun nw2 N2=>?_))
        | (go_at_call 92;with_reducible refine(NC3.out _ N2.out.m).mono (Mz.k N2 fun nw3 N3=>?_))
        | (go_at_call 39;with_reducible refine(NC4.out _ N3.out.m).mono (Mz.k N3 fun nw4 N4=>?_))
        | fail)
      first|go_end0|refine bn ?_
      refine⟨rfl,?_⟩;rw[HT.out];unfold eB;simp only;rw[HE.out];simp only[hc,bp,aH];exact N4.out
     ·have NC1:=ac (fun W1 (h1:Mk g fv F (u) W1)=>fE hF h1 hBu.p [124] (by decide) hb);have NC2:=ac (fun W1 (h1:Mk g fv F (u) W1)=>iS hF h1 (hBu.mono (by omega)) 41 (by decide));have NC3:=ac (fun W1 (h1:Mk g fv F (eE F 41 u) W1)=>fT hF h1 hB4.p);have NC4:=ac (fun W1 (h1:Mk g fv F (dW F (eE F 41 u)) W1)=>mg hF h1 hB5.p hc);have NC5:=ac (fun W1 (h1:Mk g fv F (dW F (eE F 41 u)) W1)=>ww hF hL HL h1 hq5 (hB5.mono (by omega)))
      go_wp2_with (first
        | (go_at_call 73;with_reducible refine(NC1.out _ U0.out.m).mono (Mz.k U0 fun nw1 N1=>?_))
        | (go_at_call 182;with_reducible refine(NC2.out _ N1.out.m).mono (Mz.k N1 fun nw2 N2=>?_))
        | (go_at_call 92;with_reducible refine(NC3.out _ N2.out.m).mono (Mz.k N2 fun nw3 N3=>?_))
        | (go_at_call 39;with_reducible refine(NC4.out _ N3.out.m).mono (Mz.k N3 fun nw4 N4=>?_))
        | (go_at_call 51;with_reducible refine(NC5.out _ N4.out.m).mono (Mz.k N4 fun nw5 N5=>?_))
        | fail)
      first|go_end0|refine bn ?_
      refine⟨rfl,?_⟩;rw[HT.out];unfold eB;simp only;rw[HE.out];simp only[hc,bP];exact N5.out
    ·have hy:=LC.y (ke u hBu.p) (t:=eK F (dY u)) (by show (if _ then _ else _)=_;rw[aB hb]);have HE:=ac ((LC.stepy ke hBu.p (t:=eK F (dY u)) (by show (if _ then _ else _)=_;rw[aB hb])).symm.trans HU.out);have hlt:=er hb (by decide);have hn1:=hBu.next hlt (by omega);have YC1:=ac (fun W1 (h1:Mk g fv F (u) W1)=>gD hF h1 hBu.p [124] (by decide) hb);have YC2:=ac (fun W1 (h1:Mk g fv F (dY u) W1)=>oE hF h1 (hn1.mono (by omega)))
     go_wp2_with (first
       | (go_at_call 73;with_reducible refine(YC1.out _ U0.out.m).mono (Mz.k U0 fun yw1 Y1=>?_))
       | (go_at_call 181;with_reducible refine(YC2.out _ Y1.out.m).mono (Mz.k Y1 fun yw2 Y2=>?_))
       | fail)
     refine⟨⟨_,aA hqu (aM hy.2),hBu.gd hy.1,HE.out,Y2.out⟩,?_⟩;rw[Y2.out.m.pOf,HP.out]
     have:=hy.2
     have:=hy.1.N
     omega
theorem sN (hF:FB F) (hL:GL F L) (HL:ia g fv F L q) (h:Mk g fv F s W) (hq:q≤s.p) (hB:Bd F 9 s) :
    Calls Tryz.prog 51 #[.pointer (some ⟨g,0,none⟩),.int .i64 15,.func (.func 201) #[.pointer (some ⟨g,0,none⟩)] #[]] W fun e w'=>e=.returned (.tuple #[])∧Mz g fv F W (eh 15 (eB F L) s) w':=by
  have hi:=hB.inn 15;have hg:=sV hL (s:=fG 15 s) hi.p;have hn:=hF.n;have h1:=hg.l;have h2:=hg.N;rw[oH] at h1;exact tD (t:=eB F L (fG 15 s)) 15 _ h (hB.l5 hF (by omega)) (by omega) (enters_of Tryz.func201 (by kernel_rfl) rfl) (fun W1 h1=>Mg hF hL HL h1.m hq hi) (by omega) (by omega)
theorem MB (F:List Lf) (c:UInt8) (s:Ps):ef F [c] s=(sg F s.p==c):=by
  unfold ef;rw[List.contains_cons];simp
theorem km (hF:FB F) (h:Mk g fv F s W) (hs:s.p≤F.length) (c:UInt8) (hc:c=sg F s.p) :
    Calls Tryz.prog 61 #[.pointer (some ⟨g,0,none⟩),.int .i64 0] W fun e w'=>e=.returned (.int .u8 (c.toNat:Int))∧Mz g fv F W s w':=by
  have c0:=ny hF h hs 0 s.p (by omega) (.inl rfl);rw[←hc] at c0;exact c0.mono fun e w' ⟨h1,h2⟩=>⟨h1,(Mz.start h).next h2⟩
theorem Kk (hF:FB F) (hL:GL F L) (HL:ia g fv F L q) (h:Mk g fv F s W) (hq:q≤s.p) (hB:Bd F 0 s) :
    lw 177 g fv F W (.tuple #[]) (ji F L s):=by
  have hg1:=gK (F:=F) hB.p;have hB1:=hB.gd hg1;have hg2:=ej (F:=F) hB1.p;have hB2:=hB1.gd hg2;have hg3:=fp (F:=F) (c:=107) (by decide) hB2.p;have hB3:=hB2.gd hg3;have hg4:=ej (F:=F) hB3.p;have hB4:=hB3.gd hg4;have hq4:=aA hq (aA hg1.p (aA hg2.p (aA hg3.p hg4.p)));obtain⟨T,hT⟩:∃T,T=ji F L s:=⟨_,rfl⟩;rw[←hT];have HT:=ac hT;clear hT;have HC1:=ac (fun W1 (h1:Mk g fv F (s) W1)=>oE hF h1 (hB.mono (by omega)));have HC2:=ac (fun W1 (h1:Mk g fv F (eK F s) W1)=>fT hF h1 hB1.p);have HC3:=ac (fun W1 (h1:Mk g fv F (dW F (eK F s)) W1)=>iS hF h1 (hB2.mono (by omega)) 107 (by decide));have HC4:=ac (fun W1 (h1:Mk g fv F (eE F 107 (dW F (eK F s))) W1)=>fT hF h1 hB3.p);have H0:=ac (Mz.start h);clear h;go_enter Tryz.func177,Tryz.ntmps177;go_wp2_with fail;go_step3
  go_wp2_with (first
    | (go_at_call 181;with_reducible refine(HC1.out _ H0.out.m).mono (Mz.k H0 fun hw1 H1=>?_))
    | (go_at_call 92;with_reducible refine(HC2.out _ H1.out.m).mono (Mz.k H1 fun hw2 H2=>?_))
    | (go_at_call 182;with_reducible refine(HC3.out _ H2.out.m).mono (Mz.k H2 fun hw3 H3=>?_))
    | (go_at_call 92;with_reducible refine(HC4.out _ H3.out.m).mono (Mz.k H3 fun hw4 H4=>?_))
    | fail)
  go_step3;go_wp2_with fail;go_loopw [] (fun wr=>∃u:Ps,q≤u.p∧Bd F 5 u∧(eV F.length (fun s=>if gx F s=true then (if ef F [121] (eh 15 (eB F L) s)=true then (dW F (dY (eh 15 (eB F L) s)),true) else (eh 15 (eB F L) s,false)) else (s,false))) u=(eV F.length (fun s=>if gx F s=true then (if ef F [121] (eh 15 (eB F L) s)=true then (dW F (dY (eh 15 (eB F L) s)),true) else (eh 15 (eB F L) s,false)) else (s,false))) (dW F (eE F 107 (dW F (eK F s))))∧Mz g fv F W u wr) (fun wr=>F.length-pOf g wr)
  case atStart=>exact⟨_,hq4,hB4.mono (by omega),rfl,H4.out⟩
  case round=>
    obtain⟨u,hqu,hBu,hlu,hz⟩:=hrel;have U0:=ac hz;have HU:=ac hlu;have hup:=hz.m.pOf;have HP:=ac hup;clear hz hlu hup;have hib:gx F u=(ef F [40] u||iw F u.p&&sg F u.p != 122):=by unfold gx;rw[MB]
    cases x1:ef F [40] u
    ·cases x2:iw F u.p
     ·have hb:gx F u=false:=by rw[hib,x1,x2];rfl
      clear hib;have HE:=ac (HU.out.symm.trans (LC.stepn (gW hL) hBu.p (t:=u) (by show (if _ then _ else _)=_;rw[aC (by rw[hb];decide)])));have NC1:=ac (fun W1 (h1:Mk g fv F (u) W1)=>qH hF h1 hBu.p [40] (by decide) x1);have NC2:=ac (fun W1 (h1:Mk g fv F (u) W1)=>gP hF h1 hBu.p x2);have NC3:=ac (fun W1 (h1:Mk g fv F (u) W1)=>iS hF h1 (hBu.mono (by omega)) 122 (by decide))
      go_wp2_with (first
        | (go_at_call 91;with_reducible refine(NC1.out _ U0.out.m).mono (Mz.k U0 fun nw1 N1=>?_))
        | (go_at_call 183;with_reducible refine(NC2.out _ N1.out.m).mono (Mz.k N1 fun nw2 N2=>?_))
        | (go_at_call 182;with_reducible refine(NC3.out _ N2.out.m).mono (Mz.k N2 fun nw3 N3=>?_))
        | fail)
      try rw[aY]
      first|go_end0|refine bn ?_
      refine⟨rfl,?_⟩;rw[HT.out];unfold ji;rw[HE.out];exact N3.out
     ·obtain⟨c,hc3⟩:∃c,c=sg F u.p:=⟨_,rfl⟩;rw[x1,x2,←hc3] at hib;have HC3:=ac hc3;clear hc3;by_cases h9:c=122
      ·have hb:gx F u=false:=by rw[hib];simp[h9]
       have k9:((c.toNat:Int)==122)=true:=by rw[show ((c.toNat:Int)==122)=(c==122) from iT c 122];simp[h9]
       have k8:((c.toNat:Int)!=122)=false:=by rw[bne,k9];rfl
       clear hib h9;have HE:=ac (HU.out.symm.trans (LC.stepn (gW hL) hBu.p (t:=u) (by show (if _ then _ else _)=_;rw[aC (by rw[hb];decide)])));have NC1:=ac (fun W1 (h1:Mk g fv F (u) W1)=>qH hF h1 hBu.p [40] (by decide) x1);have NC2:=ac (fun W1 (h1:Mk g fv F (u) W1)=>i9 hF h1 hBu.p x2);have NC3:=ac (fun W1 (h1:Mk g fv F (u) W1)=>km hF h1 hBu.p c HC3.out);have NC4:=ac (fun W1 (h1:Mk g fv F (u) W1)=>iS hF h1 (hBu.mono (by omega)) 122 (by decide))
       go_wp2_with (first
         | (go_at_call 91;with_reducible refine(NC1.out _ U0.out.m).mono (Mz.k U0 fun nw1 N1=>?_))
         | (go_at_call 183;with_reducible refine(NC2.out _ N1.out.m).mono (Mz.k N1 fun nw2 N2=>?_))
         | (go_at_call 61;with_reducible refine(NC3.out _ N2.out.m).mono (Mz.k N2 fun nw3 N3=>?_))
         | (go_at_call 182;with_reducible refine(NC4.out _ N3.out.m).mono (Mz.k N3 fun nw4 N4=>?_))
         | fail)
       try rw[aY]
       first|go_end0|refine bn ?_
       refine⟨rfl,?_⟩;rw[HT.out];unfold ji;rw[HE.out];exact N4.out
      ·have hb:gx F u=true:=by rw[hib];simp[h9]
       have k9:((c.toNat:Int)==122)=false:=by rw[show ((c.toNat:Int)==122)=(c==122) from iT c 122];exact aN h9
       have k8:((c.toNat:Int)!=122)=true:=by rw[bne,k9];rfl
       clear hib h9;have hg6:=(oF hL hb).1;have hB6:=hBu.gd hg6;have hq6:=aA hqu hg6.p
       cases hc:ef F [121] (eh 15 (eB F L) u)
       ·have HE:=ac (HU.out.symm.trans (LC.stepn (gW hL) hBu.p (t:=eh 15 (eB F L) u) (by show (if _ then (if _ then _ else _) else _)=_;rw[aB hb,aC (by rw[hc];decide)])));have NC1:=ac (fun W1 (h1:Mk g fv F (u) W1)=>qH hF h1 hBu.p [40] (by decide) x1);have NC2:=ac (fun W1 (h1:Mk g fv F (u) W1)=>i9 hF h1 hBu.p x2);have NC3:=ac (fun W1 (h1:Mk g fv F (u) W1)=>km hF h1 hBu.p c HC3.out);have NC4:=ac (fun W1 (h1:Mk g fv F (u) W1)=>sN hF hL HL h1 hqu (hBu.mono (by omega)));have NC5:=ac (fun W1 (h1:Mk g fv F (eh 15 (eB F L) u) W1)=>fE hF h1 hB6.p [121] (by decide) hc);have NC6:=ac (fun W1 (h1:Mk g fv F (eh 15 (eB F L) u) W1)=>iS hF h1 (hB6.mono (by omega)) 122 (by decide))
        go_wp2_with (first
          | (go_at_call 91;with_reducible refine(NC1.out _ U0.out.m).mono (Mz.k U0 fun nw1 N1=>?_))
          | (go_at_call 183;with_reducible refine(NC2.out _ N1.out.m).mono (Mz.k N1 fun nw2 N2=>?_))
          | (go_at_call 61;with_reducible refine(NC3.out _ N2.out.m).mono (Mz.k N2 fun nw3 N3=>?_))
          | (go_at_call 51;with_reducible refine(NC4.out _ N3.out.m).mono (Mz.k N3 fun nw4 N4=>?_))
          | (go_at_call 73;with_reducible refine(NC5.out _ N4.out.m).mono (Mz.k N4 fun nw5 N5=>?_))
          | (go_at_call 182;with_reducible refine(NC6.out _ N5.out.m).mono (Mz.k N5 fun nw6 N6=>?_))
          | fail)
        try rw[aY]
        first|go_end0|refine bn ?_
        refine⟨rfl,?_⟩;rw[HT.out];unfold ji;rw[HE.out];exact N6.out
       ·have hlt:=er hc (by decide);have hn7:=hB6.next hlt (by omega);have he:(if gx F u=true then (if ef F [121] (eh 15 (eB F L) u)=true then (dW F (dY (eh 15 (eB F L) u)),true) else (eh 15 (eB F L) u,false)) else (u,false))=(dW F (dY (eh 15 (eB F L) u)),true):=by rw[aB hb,aB hc]
        have hy:=LC.y (gW hL u hBu.p) (t:=dW F (dY (eh 15 (eB F L) u))) he;have HE:=ac ((LC.stepy (gW hL) hBu.p (t:=dW F (dY (eh 15 (eB F L) u))) he).symm.trans HU.out);clear he;have YC1:=ac (fun W1 (h1:Mk g fv F (u) W1)=>qH hF h1 hBu.p [40] (by decide) x1);have YC2:=ac (fun W1 (h1:Mk g fv F (u) W1)=>i9 hF h1 hBu.p x2);have YC3:=ac (fun W1 (h1:Mk g fv F (u) W1)=>km hF h1 hBu.p c HC3.out);have YC4:=ac (fun W1 (h1:Mk g fv F (u) W1)=>sN hF hL HL h1 hqu (hBu.mono (by omega)));have YC5:=ac (fun W1 (h1:Mk g fv F (eh 15 (eB F L) u) W1)=>gD hF h1 hB6.p [121] (by decide) hc);have YC6:=ac (fun W1 (h1:Mk g fv F (dY (eh 15 (eB F L) u)) W1)=>fT hF h1 hn7.p)
        go_wp2_with (first
          | (go_at_call 91;with_reducible refine(YC1.out _ U0.out.m).mono (Mz.k U0 fun yw1 Y1=>?_))
          | (go_at_call 183;with_reducible refine(YC2.out _ Y1.out.m).mono (Mz.k Y1 fun yw2 Y2=>?_))
          | (go_at_call 61;with_reducible refine(YC3.out _ Y2.out.m).mono (Mz.k Y2 fun yw3 Y3=>?_))
          | (go_at_call 51;with_reducible refine(YC4.out _ Y3.out.m).mono (Mz.k Y3 fun yw4 Y4=>?_))
          | (go_at_call 73;with_reducible refine(YC5.out _ Y4.out.m).mono (Mz.k Y4 fun yw5 Y5=>?_))
          | (go_at_call 92;with_reducible refine(YC6.out _ Y5.out.m).mono (Mz.k Y5 fun yw6 Y6=>?_))
          | fail)
        refine⟨⟨_,aA hqu (aM hy.2),hBu.gd hy.1,HE.out,Y6.out⟩,?_⟩;rw[Y6.out.m.pOf,HP.out]
        have:=hy.2
        have:=hy.1.N
        omega
    ·have hb:gx F u=true:=by rw[hib,x1];rfl
     clear hib;have hg6:=(oF hL hb).1;have hB6:=hBu.gd hg6;have hq6:=aA hqu hg6.p
     cases hc:ef F [121] (eh 15 (eB F L) u)
     ·have HE:=ac (HU.out.symm.trans (LC.stepn (gW hL) hBu.p (t:=eh 15 (eB F L) u) (by show (if _ then (if _ then _ else _) else _)=_;rw[aB hb,aC (by rw[hc];decide)])));have NC1:=ac (fun W1 (h1:Mk g fv F (u) W1)=>za hF h1 hBu.p [40] (by decide) x1);have NC2:=ac (fun W1 (h1:Mk g fv F (u) W1)=>sN hF hL HL h1 hqu (hBu.mono (by omega)));have NC3:=ac (fun W1 (h1:Mk g fv F (eh 15 (eB F L) u) W1)=>fE hF h1 hB6.p [121] (by decide) hc);have NC4:=ac (fun W1 (h1:Mk g fv F (eh 15 (eB F L) u) W1)=>iS hF h1 (hB6.mono (by omega)) 122 (by decide))
      go_wp2_with (first
        | (go_at_call 91;with_reducible refine(NC1.out _ U0.out.m).mono (Mz.k U0 fun nw1 N1=>?_))
        | (go_at_call 51;with_reducible refine(NC2.out _ N1.out.m).mono (Mz.k N1 fun nw2 N2=>?_))
        | (go_at_call 73;with_reducible refine(NC3.out _ N2.out.m).mono (Mz.k N2 fun nw3 N3=>?_))
        | (go_at_call 182;with_reducible refine(NC4.out _ N3.out.m).mono (Mz.k N3 fun nw4 N4=>?_))
        | fail)
      try rw[aY]
      first|go_end0|refine bn ?_
      refine⟨rfl,?_⟩;rw[HT.out];unfold ji;rw[HE.out];exact N4.out
     ·have hlt:=er hc (by decide);have hn7:=hB6.next hlt (by omega);have he:(if gx F u=true then (if ef F [121] (eh 15 (eB F L) u)=true then (dW F (dY (eh 15 (eB F L) u)),true) else (eh 15 (eB F L) u,false)) else (u,false))=(dW F (dY (eh 15 (eB F L) u)),true):=by rw[aB hb,aB hc]
      have hy:=LC.y (gW hL u hBu.p) (t:=dW F (dY (eh 15 (eB F L) u))) he;have HE:=ac ((LC.stepy (gW hL) hBu.p (t:=dW F (dY (eh 15 (eB F L) u))) he).symm.trans HU.out);clear he;have YC1:=ac (fun W1 (h1:Mk g fv F (u) W1)=>za hF h1 hBu.p [40] (by decide) x1);have YC2:=ac (fun W1 (h1:Mk g fv F (u) W1)=>sN hF hL HL h1 hqu (hBu.mono (by omega)));have YC3:=ac (fun W1 (h1:Mk g fv F (eh 15 (eB F L) u) W1)=>gD hF h1 hB6.p [121] (by decide) hc);have YC4:=ac (fun W1 (h1:Mk g fv F (dY (eh 15 (eB F L) u)) W1)=>fT hF h1 hn7.p)
      go_wp2_with (first
        | (go_at_call 91;with_reducible refine(YC1.out _ U0.out.m).mono (Mz.k U0 fun yw1 Y1=>?_))
        | (go_at_call 51;with_reducible refine(YC2.out _ Y1.out.m).mono (Mz.k Y1 fun yw2 Y2=>?_))
        | (go_at_call 73;with_reducible refine(YC3.out _ Y2.out.m).mono (Mz.k Y2 fun yw3 Y3=>?_))
        | (go_at_call 92;with_reducible refine(YC4.out _ Y3.out.m).mono (Mz.k Y3 fun yw4 Y4=>?_))
        | fail)
      refine⟨⟨_,aA hqu (aM hy.2),hBu.gd hy.1,HE.out,Y4.out⟩,?_⟩;rw[Y4.out.m.pOf,HP.out]
      have:=hy.2
      have:=hy.1.N
      omega
theorem yW (hF:FB F) (h:Mk g fv F s W) (hs:s.p<F.length) (hB:Bd F 14 t) (hb:Bk W bx 76 #[.pointer (some ⟨g,0,none⟩)]) (hm:Bk W by_ 1 #[.func (.func fX) #[.pointer (some ⟨g,0,none⟩)] #[]]) (eg:∀args w,(callFunc fX args).run Tryz.prog w=.ok (.enter fX args) w) (hX:∀W1,Mk g fv F (dY s) W1→Calls Tryz.prog fX #[.pointer (some ⟨g,0,none⟩)] W1 fun e w'=>e=.returned (.tuple #[])∧Mz g fv F W1 t w') :
    Calls Tryz.prog 178 #[.pointer (some ⟨bx,0,none⟩),.pointer (some ⟨by_,0,none⟩)] W fun e w'=>e=.returned (.tuple #[])∧Mz g fv F W (gH F t) w':=by
  have hn:=hF.n;have v1:IntKind.i64.wrap ((s.p:Int)+1)=((s.p+1:Nat):Int):=by rw[aO _ (by omega)];omega
  obtain⟨c0,c1,c3,c4,f1,f2,f3,f4⟩:=h.cells;have b0:=hb.cell 0;have m0:W.cell? ⟨by_,0,none⟩=some (.func (.func fX) #[.pointer (some ⟨g,0,none⟩)] #[]):=hm.cell 0;have HBX:=ac hb;have HM:=ac hm;have HX:=ac hX;have H0:=ac (Mz.start h);clear h hb hm hX;go_enter Tryz.func178,Tryz.ntmps178;go_upto_region 1 with fail
  have h1:=H0.out.setP (s.p+1);rw[show ((s.p+1:Nat):Int)=(s.p:Int)+1 by omega] at h1;have H1:=ac h1;clear h1;have b1:=(Bk.kt HBX.out H1.out.f.kt (by decide)).cell 0;have m1:_=some (Value.func (.func fX) #[.pointer (some ⟨g,0,none⟩)] #[]):=(Bk.kt HM.out H1.out.f.kt (by decide)).cell 0;clear b0 m0 c0 c1 c3 c4 f1 f2 f3 f4;generalize W.setCell {block:=g,off:=1} (Value.int IntKind.i64 ((s.p:Int)+1))=W1 at *;have H1n:Mz g fv F W (dY s) W1:=H1.out;replace H1:=ac H1n;clear H1n;go_wp2_with (
    (with_reducible refine(HX.out _ H1.out.m).mono ?_
     rintro e w2 ⟨rfl,hz⟩;have H2:=ac (H1.out.then hz);have b0:=(Bk.kt HBX.out H2.out.f.kt (by decide)).cell 0;clear hz))
  go_loopw [] (fun wr=>∃u:Ps,Bd F 14 u∧(eV F.length (fun s=>if eS F s=true then (fH F s,true) else (s,false))) u=(eV F.length (fun s=>if eS F s=true then (fH F s,true) else (s,false))) t∧Mz g fv F W u wr) (fun wr=>F.length-pOf g wr)
  case atStart=>exact⟨_,hB,rfl,H2.out⟩
  case round=>
    obtain⟨u,hBu,hlu,hz⟩:=hrel;have U0:=ac hz;have HU:=ac hlu;have hup:=hz.m.pOf;have HP:=ac hup;have b0:=(Bk.kt HBX.out U0.out.f.kt (by decide)).cell 0;clear hz hlu hup
    cases hb:eS F u
    ·have HE:=ac (HU.out.symm.trans (LC.stepn iV hBu.p (t:=u) (by show (if _ then _ else _)=_;rw[aC (by rw[hb];decide)])));have HC1:=ac (fun W1 (h1:Mk g fv F u W1)=>jU hF h1 (hBu.mono (by omega)) hb);go_wp2_with (
       (go_at_call 179;with_reducible refine(HC1.out _ U0.out.m).mono (Mz.k U0 fun w3 U1=>?_)))
     first|go_end0|refine bn ?_
     refine⟨rfl,?_⟩;unfold gH;rw[HE.out];exact U1.out
    ·have hy:=LC.y (iV u hBu.p) (t:=fH F u) (by show (if _ then _ else _)=_;rw[aB hb]);have HE:=ac ((LC.stepy iV hBu.p (t:=fH F u) (by show (if _ then _ else _)=_;rw[aB hb])).symm.trans HU.out);have HC1:=ac (fun W1 (h1:Mk g fv F u W1)=>rZ hF h1 (hBu.mono (by omega)) hb);go_wp2_with (
       (go_at_call 179;with_reducible refine(HC1.out _ U0.out.m).mono (Mz.k U0 fun w3 U1=>?_)))
     refine⟨⟨_,hBu.gd hy.1,HE.out,U1.out⟩,?_⟩;rw[U1.out.m.pOf,HP.out]
     have:=hy.2
     have:=hy.1.N
     omega
end Go.Proofs.YtmclohkaiemnaaaGreatDoor
