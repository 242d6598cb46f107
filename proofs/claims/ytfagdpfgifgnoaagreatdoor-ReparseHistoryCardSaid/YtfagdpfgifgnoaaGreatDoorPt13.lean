/- The parser: bodies, braces, loops. -/
import Derived.Test.YtfagdpfgifgnoaaGreatDoorPm13
set_option linter.unusedVariables false
set_option linter.unusedSimpArgs false
set_option maxRecDepth 100000
set_option maxHeartbeats 8000000
namespace Go.Proofs.YtfagdpfgifgnoaaGreatDoor
open Go.RowKit
variable {F:List Lf} {g q N B bx by_ fX:Nat} {s t:Ps} {r:Ps×Bool} {L:Ps→Ps} {c:Ps→Ps×Bool} {fv:Value} {W:World}
def cJ (g:Nat) (fv:Value) (F:List Lf) (L:Ps→Ps) (q:Nat):Prop:=∀(s:Ps) (W:World),q≤s.p→Bd F 20 s→Mk g fv F s W →
  f9 88 g fv F W (.tuple #[]) (L s)
theorem uK (hF:FB F) (hL:GL F L) (HL:cJ g fv F L q) (h:Mk g fv F s W) (hq:q≤s.p) (hB:Bd F 19 s) :
    Calls Tryz.prog 64 #[.pointer (some ⟨g,0,none⟩),.int .i64 2,.func (.func 88) #[.pointer (some ⟨g,0,none⟩)] #[]] W fun e w'=>e=.returned (.tuple #[])∧Mz g fv F W (an 2 L s) w':=by
  have hi:=hB.inn 2;have hg:=hL (ma 2 s) hi.p;have hn:=hF.n;have h1:=hg.l;have h2:=hg.N;rw[jq] at h1;exact pV (t:=L (ma 2 s)) 2 _ h (hB.l5 hF (by omega)) (by omega) (enters_of Tryz.func88 (by kernel_rfl) rfl) (fun W1 h1=>HL _ W1 hq hi h1.m) (by omega) (by omega)
theorem iy (hF:FB F) (hL:GL F L) (HL:cJ g fv F L q) (h:Mk g fv F s W) (hq:q≤s.p) (hB:Bd F 14 s) :
    f9 212 g fv F W (.tuple #[]) (aF F L s):=by
  have hB1:=hB.gd (ar hB.p);have hq1:q≤(ac F s).p:=Nat.le_trans hq (ar (F:=F) hB.p).p;unfold aF
  cases hb:bH F (ac F s)
  ·have HC1:=Lib.hid (fun W1 (h1:Mk g fv F (s) W1)=>bF hF h1 hB.p);have HC2:=Lib.hid (fun W1 (h1:Mk g fv F (ac F s) W1)=>iS hF h1 hB1.p hb);have HC3:=Lib.hid (fun W1 (h1:Mk g fv F (ac F s) W1)=>bP hF h1 (hB1.mono (by omega)));have H0:=Lib.hid (Mz.start h);clear h;go_enter Tryz.func212,Tryz.ntmps212
   go_wp2_with (first
     | (go_at_call 106;with_reducible refine(HC1.out _ H0.out.m).mono (Mz.k H0 fun hw1 H1=>?_))
     | (go_at_call 53;with_reducible refine(HC2.out _ H1.out.m).mono (Mz.k H1 fun hw2 H2=>?_))
     | (go_at_call 133;with_reducible refine(HC3.out _ H2.out.m).mono (Mz.k H2 fun hw3 H3=>?_))
     | fail)
   first|go_end0|refine bn ?_
   exact⟨rfl,H3.out⟩
  ·have HC1:=Lib.hid (fun W1 (h1:Mk g fv F (s) W1)=>bF hF h1 hB.p);have HC2:=Lib.hid (fun W1 (h1:Mk g fv F (ac F s) W1)=>iR hF h1 hB1.p hb);have HC3:=Lib.hid (fun W1 (h1:Mk g fv F (ac F s) W1)=>uK hF hL HL h1 hq1 (hB1.mono (by omega)));have H0:=Lib.hid (Mz.start h);clear h;go_enter Tryz.func212,Tryz.ntmps212
   go_wp2_with (first
     | (go_at_call 106;with_reducible refine(HC1.out _ H0.out.m).mono (Mz.k H0 fun hw1 H1=>?_))
     | (go_at_call 53;with_reducible refine(HC2.out _ H1.out.m).mono (Mz.k H1 fun hw2 H2=>?_))
     | (go_at_call 64;with_reducible refine(HC3.out _ H2.out.m).mono (Mz.k H2 fun hw3 H3=>?_))
     | fail)
   first|go_end0|refine bn ?_
   exact⟨rfl,H3.out⟩
theorem CG (hF:FB F) (hL:GL F L) (HL:cJ g fv F L q) (h:Mk g fv F s W) (hq:q≤s.p) (hB:Bd F 0 s) :
    f9 185 g fv F W (.tuple #[]) (aI F 125 (aF F L s)):=by
  have hB1:=hB.gd (bG hL hB.p);have HC1:=Lib.hid (fun W1 (h1:Mk g fv F (s) W1)=>iy hF hL HL h1 hq (hB.mono (by omega)));have HC2:=Lib.hid (fun W1 (h1:Mk g fv F (aF F L s) W1)=>dA hF h1 (hB1.mono (by omega)) 125 (by decide));have H0:=Lib.hid (Mz.start h);clear h;go_enter Tryz.func185,Tryz.ntmps185
  go_wp2_with (first
    | (go_at_call 212;with_reducible refine(HC1.out _ H0.out.m).mono (Mz.k H0 fun hw1 H1=>?_))
    | (go_at_call 195;with_reducible refine(HC2.out _ H1.out.m).mono (Mz.k H1 fun hw2 H2=>?_))
    | fail)
  first|go_end0|refine bn ?_
  exact⟨rfl,H2.out⟩
theorem sQ (hF:FB F) (hL:GL F L) (HL:cJ g fv F L q) (h:Mk g fv F s W) (hq:q≤s.p) (hB:Bd F 0 s) :
    f9 186 g fv F W (.tuple #[]) (aI F 41 (aF F L s)):=by
  have hB1:=hB.gd (bG hL hB.p);have HC1:=Lib.hid (fun W1 (h1:Mk g fv F (s) W1)=>iy hF hL HL h1 hq (hB.mono (by omega)));have HC2:=Lib.hid (fun W1 (h1:Mk g fv F (aF F L s) W1)=>dA hF h1 (hB1.mono (by omega)) 41 (by decide));have H0:=Lib.hid (Mz.start h);clear h;go_enter Tryz.func186,Tryz.ntmps186
  go_wp2_with (first
    | (go_at_call 212;with_reducible refine(HC1.out _ H0.out.m).mono (Mz.k H0 fun hw1 H1=>?_))
    | (go_at_call 195;with_reducible refine(HC2.out _ H1.out.m).mono (Mz.k H1 fun hw2 H2=>?_))
    | fail)
  first|go_end0|refine bn ?_
  exact⟨rfl,H2.out⟩
theorem dK (hF:FB F) (hL:GL F L) (HL:cJ g fv F L q) (h:Mk g fv F s W) (hq:q≤s.p) (hB:Bd F 9 s) :
    f9 213 g fv F W (.tuple #[]) (An F L s):=by
  have hg1:=bj (F:=F) (c:=100) (by decide) hB.p;have hB1:=hB.gd hg1;have hq1:=Nat.le_trans hq hg1.p;have hB2:=hB1.gd (bG hL hB1.p);have HC1:=Lib.hid (fun W1 (h1:Mk g fv F (s) W1)=>dA hF h1 (hB.mono (by omega)) 100 (by decide));have HC2:=Lib.hid (fun W1 (h1:Mk g fv F (aI F 100 s) W1)=>iy hF hL HL h1 hq1 (hB1.mono (by omega)));have HC3:=Lib.hid (fun W1 (h1:Mk g fv F (aF F L (aI F 100 s)) W1)=>dA hF h1 (hB2.mono (by omega)) 103 (by decide));have H0:=Lib.hid (Mz.start h);clear h;go_enter Tryz.func213,Tryz.ntmps213
  go_wp2_with (first
    | (go_at_call 195;with_reducible refine(HC1.out _ H0.out.m).mono (Mz.k H0 fun hw1 H1=>?_))
    | (go_at_call 212;with_reducible refine(HC2.out _ H1.out.m).mono (Mz.k H1 fun hw2 H2=>?_))
    | (go_at_call 195;with_reducible refine(HC3.out _ H2.out.m).mono (Mz.k H2 fun hw3 H3=>?_))
    | fail)
  first|go_end0|refine bn ?_
  exact⟨rfl,H3.out⟩
theorem DY (hF:FB F) (hL:GL F L) (HL:cJ g fv F L q) (h:Mk g fv F s W) (hq:q≤s.p) (hB:Bd F 0 s) :
    f9 188 g fv F W (.tuple #[]) (An F L (aF F L s)):=by
  have hg1:=bG hL hB.p;have hB1:=hB.gd hg1;have hq1:=Nat.le_trans hq hg1.p;have HC1:=Lib.hid (fun W1 (h1:Mk g fv F (s) W1)=>iy hF hL HL h1 hq (hB.mono (by omega)));have HC2:=Lib.hid (fun W1 (h1:Mk g fv F (aF F L s) W1)=>dK hF hL HL h1 hq1 (hB1.mono (by omega)));have H0:=Lib.hid (Mz.start h);clear h;go_enter Tryz.func188,Tryz.ntmps188
  go_wp2_with (first
    | (go_at_call 212;with_reducible refine(HC1.out _ H0.out.m).mono (Mz.k H0 fun hw1 H1=>?_))
    | (go_at_call 213;with_reducible refine(HC2.out _ H1.out.m).mono (Mz.k H1 fun hw2 H2=>?_))
    | fail)
  first|go_end0|refine bn ?_
  exact⟨rfl,H2.out⟩
theorem LC.y (h:LC N B s r) (e:r=(t,true)):Gd N 0 s t∧s.p<t.p:=by rw[e] at h;exact h.1 rfl
theorem LC.stepy (h:∀s,s.p≤N→LC N B s (c s)) (hs:s.p≤N) (e:c s=(t,true)):aZ N c s=aZ N c t:=by
  have h1:=LC.eq h s hs;simp only[e,if_true] at h1;exact h1
theorem LC.stepn (h:∀s,s.p≤N→LC N B s (c s)) (hs:s.p≤N) (e:c s=(t,false)):aZ N c s=t:=by
  have h1:=LC.eq h s hs;simp only[e,if_false,Bool.false_eq_true] at h1;exact h1
theorem tV (hF:FB F) (hL:GL F L) (HL:cJ g fv F L q) (h:Mk g fv F s W) (hq:q≤s.p) (hB:Bd F 0 s) :
    f9 187 g fv F W (.tuple #[]) (iC F L s):=by
  have hg1:=bG hL hB.p;have hB1:=hB.gd hg1;have hq1:=Nat.le_trans hq hg1.p;have hg2:=bj (F:=F) (c:=116) (by decide) hB1.p;have hB2:=hB1.gd hg2;have hq2:=Nat.le_trans hq1 hg2.p;have hg3:=bG hL hB2.p;have hB3:=hB2.gd hg3;have hq3:=Nat.le_trans hq2 hg3.p;obtain⟨T,hT⟩:∃T,T=iC F L s:=⟨_,rfl⟩;rw[←hT];have HT:=Lib.hid hT;clear hT;have HC1:=Lib.hid (fun W1 (h1:Mk g fv F (s) W1)=>iy hF hL HL h1 hq (hB.mono (by omega)));have HC2:=Lib.hid (fun W1 (h1:Mk g fv F (aF F L s) W1)=>dA hF h1 (hB1.mono (by omega)) 116 (by decide));have HC3:=Lib.hid (fun W1 (h1:Mk g fv F (aI F 116 (aF F L s)) W1)=>iy hF hL HL h1 hq2 (hB2.mono (by omega)));have H0:=Lib.hid (Mz.start h);clear h;go_enter Tryz.func187,Tryz.ntmps187
  go_wp2_with (first
    | (go_at_call 212;with_reducible refine(HC1.out _ H0.out.m).mono (Mz.k H0 fun hw1 H1=>?_))
    | (go_at_call 195;with_reducible refine(HC2.out _ H1.out.m).mono (Mz.k H1 fun hw2 H2=>?_))
    | (go_at_call 212;with_reducible refine(HC3.out _ H2.out.m).mono (Mz.k H2 fun hw3 H3=>?_))
    | fail)
  go_loopw [] (fun wr=>∃u:Ps,q≤u.p∧Bd F 9 u∧(aZ F.length (fun s=>if am F [101] s=true then (aF F L (aI F 116 (aF F L (ai s))),true) else (s,false))) u=(aZ F.length (fun s=>if am F [101] s=true then (aF F L (aI F 116 (aF F L (ai s))),true) else (s,false))) (aF F L (aI F 116 (aF F L s)))∧Mz g fv F W u wr) (fun wr=>F.length-pOf g wr)
  case atStart=>exact⟨_,hq3,hB3,rfl,H3.out⟩
  case round=>
    obtain⟨u,hqu,hBu,hlu,hz⟩:=hrel;have U0:=Lib.hid hz;have HU:=Lib.hid hlu;have hup:=hz.m.pOf;have HP:=Lib.hid hup;clear hz hlu hup
    cases hb:am F [101] u
    ·have HE:=Lib.hid (HU.out.symm.trans (LC.stepn (fe hL) hBu.p (t:=u) (by show (if _ then _ else _)=_;rw[if_neg (by rw[hb];decide)])))
     cases hc:am F [108] u
     ·have NC1:=Lib.hid (fun W1 (h1:Mk g fv F (u) W1)=>bB hF h1 hBu.p [101] (by decide) hb);have NC2:=Lib.hid (fun W1 (h1:Mk g fv F (u) W1)=>bB hF h1 hBu.p [108] (by decide) hc);have NC3:=Lib.hid (fun W1 (h1:Mk g fv F (u) W1)=>dA hF h1 (hBu.mono (by omega)) 102 (by decide))
      go_wp2_with (first
        | (go_at_call 87;with_reducible refine(NC1.out _ U0.out.m).mono (Mz.k U0 fun nw1 N1=>?_))
        | (go_at_call 87;with_reducible refine(NC2.out _ N1.out.m).mono (Mz.k N1 fun nw2 N2=>?_))
        | (go_at_call 195;with_reducible refine(NC3.out _ N2.out.m).mono (Mz.k N2 fun nw3 N3=>?_))
        | fail)
      first|go_end0|refine bn ?_
      refine⟨rfl,?_⟩;rw[HT.out];unfold iC;simp only;rw[HE.out];simp only[hc,if_false,Bool.false_eq_true];exact N3.out
     ·have hlt:=au hc (by decide);have hn2:=hBu.next hlt (by omega);have hq7:q≤(ai u).p:=Nat.le_trans hqu (Nat.le_succ _);have hg8:=bG hL hn2.p;have hB8:=hn2.gd hg8;have NC1:=Lib.hid (fun W1 (h1:Mk g fv F (u) W1)=>bB hF h1 hBu.p [101] (by decide) hb);have NC2:=Lib.hid (fun W1 (h1:Mk g fv F (u) W1)=>bW hF h1 hBu.p [108] (by decide) hc);have NC3:=Lib.hid (fun W1 (h1:Mk g fv F (ai u) W1)=>iy hF hL HL h1 hq7 (hn2.mono (by omega)));have NC4:=Lib.hid (fun W1 (h1:Mk g fv F (aF F L (ai u)) W1)=>dA hF h1 (hB8.mono (by omega)) 102 (by decide))
      go_wp2_with (first
        | (go_at_call 87;with_reducible refine(NC1.out _ U0.out.m).mono (Mz.k U0 fun nw1 N1=>?_))
        | (go_at_call 87;with_reducible refine(NC2.out _ N1.out.m).mono (Mz.k N1 fun nw2 N2=>?_))
        | (go_at_call 212;with_reducible refine(NC3.out _ N2.out.m).mono (Mz.k N2 fun nw3 N3=>?_))
        | (go_at_call 195;with_reducible refine(NC4.out _ N3.out.m).mono (Mz.k N3 fun nw4 N4=>?_))
        | fail)
      first|go_end0|refine bn ?_
      refine⟨rfl,?_⟩;rw[HT.out];unfold iC;simp only;rw[HE.out];simp only[hc,if_true];exact N4.out
    ·have hy:=LC.y ((fe hL) u hBu.p) (t:=aF F L (aI F 116 (aF F L (ai u)))) (by show (if _ then _ else _)=_;rw[if_pos hb]);have HE:=Lib.hid ((LC.stepy (fe hL) hBu.p (t:=aF F L (aI F 116 (aF F L (ai u)))) (by show (if _ then _ else _)=_;rw[if_pos hb])).symm.trans HU.out);have hlt:=au hb (by decide);have hn1:=hBu.next hlt (by omega);have hq4:q≤(ai u).p:=Nat.le_trans hqu (Nat.le_succ _);have hg4:=bG hL hn1.p;have hB4:=hn1.gd hg4;have hq5:=Nat.le_trans hq4 hg4.p;have hg5:=bj (F:=F) (c:=116) (by decide) hB4.p;have hB5:=hB4.gd hg5;have hq6:=Nat.le_trans hq5 hg5.p;have YC1:=Lib.hid (fun W1 (h1:Mk g fv F (u) W1)=>bW hF h1 hBu.p [101] (by decide) hb);have YC2:=Lib.hid (fun W1 (h1:Mk g fv F (ai u) W1)=>iy hF hL HL h1 hq4 (hn1.mono (by omega)));have YC3:=Lib.hid (fun W1 (h1:Mk g fv F (aF F L (ai u)) W1)=>dA hF h1 (hB4.mono (by omega)) 116 (by decide));have YC4:=Lib.hid (fun W1 (h1:Mk g fv F (aI F 116 (aF F L (ai u))) W1)=>iy hF hL HL h1 hq6 (hB5.mono (by omega)))
     go_wp2_with (first
       | (go_at_call 87;with_reducible refine(YC1.out _ U0.out.m).mono (Mz.k U0 fun yw1 Y1=>?_))
       | (go_at_call 212;with_reducible refine(YC2.out _ Y1.out.m).mono (Mz.k Y1 fun yw2 Y2=>?_))
       | (go_at_call 195;with_reducible refine(YC3.out _ Y2.out.m).mono (Mz.k Y2 fun yw3 Y3=>?_))
       | (go_at_call 212;with_reducible refine(YC4.out _ Y3.out.m).mono (Mz.k Y3 fun yw4 Y4=>?_))
       | fail)
     refine⟨⟨_,Nat.le_trans hqu (Nat.le_of_lt hy.2),hBu.gd hy.1,HE.out,Y4.out⟩,?_⟩;rw[Y4.out.m.pOf,HP.out]
     have:=hy.2
     have:=hy.1.N
     omega
theorem D6 (hF:FB F) (hL:GL F L) (HL:cJ g fv F L q) (h:Mk g fv F s W) (hq:q≤s.p) (hB:Bd F 10 s) :
    f9 214 g fv F W (.tuple #[]) (aO F L s):=by
  have hg1:=bX (F:=F) (cs:=[40]) (by decide) hB.p;have hB1:=hB.gd hg1;have hg2:=dk (F:=F) hB1.p;have hB2:=hB1.gd hg2;have hq2:=Nat.le_trans hq (Nat.le_trans hg1.p hg2.p);obtain⟨T,hT⟩:∃T,T=aO F L s:=⟨_,rfl⟩;rw[←hT];have HT:=Lib.hid hT;clear hT;have HC1:=Lib.hid (fun W1 (h1:Mk g fv F (s) W1)=>gw hF h1 hB.p [40] (by decide));have HC2:=Lib.hid (fun W1 (h1:Mk g fv F (aG F [40] s) W1)=>jn hF h1 (hB1.mono (by omega)));have H0:=Lib.hid (Mz.start h);clear h;go_enter Tryz.func214,Tryz.ntmps214
  go_wp2_with (first
    | (go_at_call 87;with_reducible refine(HC1.out _ H0.out.m).mono (Mz.k H0 fun hw1 H1=>?_))
    | (go_at_call 194;with_reducible refine(HC2.out _ H1.out.m).mono (Mz.k H1 fun hw2 H2=>?_))
    | fail)
  go_loopw [] (fun wr=>∃u:Ps,q≤u.p∧Bd F 11 u∧(aZ F.length (fun s=>if am F [124] s=true then (aU F (ai s),true) else (s,false))) u=(aZ F.length (fun s=>if am F [124] s=true then (aU F (ai s),true) else (s,false))) (aU F (aG F [40] s))∧Mz g fv F W u wr) (fun wr=>F.length-pOf g wr)
  case atStart=>exact⟨_,hq2,hB2,rfl,H2.out⟩
  case round=>
    obtain⟨u,hqu,hBu,hlu,hz⟩:=hrel;have U0:=Lib.hid hz;have HU:=Lib.hid hlu;have hup:=hz.m.pOf;have HP:=Lib.hid hup;clear hz hlu hup
    cases hb:am F [124] u
    ·have HE:=Lib.hid (HU.out.symm.trans (LC.stepn iu hBu.p (t:=u) (by show (if _ then _ else _)=_;rw[if_neg (by rw[hb];decide)])));have hg4:=bj (F:=F) (c:=41) (by decide) hBu.p;have hB4:=hBu.gd hg4;have hg5:=ar (F:=F) hB4.p;have hB5:=hB4.gd hg5;have hq5:=Nat.le_trans hqu (Nat.le_trans hg4.p hg5.p)
     cases hc:bH F (ac F (aI F 41 u))
     ·have NC1:=Lib.hid (fun W1 (h1:Mk g fv F (u) W1)=>bB hF h1 hBu.p [124] (by decide) hb);have NC2:=Lib.hid (fun W1 (h1:Mk g fv F (u) W1)=>dA hF h1 (hBu.mono (by omega)) 41 (by decide));have NC3:=Lib.hid (fun W1 (h1:Mk g fv F (aI F 41 u) W1)=>bF hF h1 hB4.p);have NC4:=Lib.hid (fun W1 (h1:Mk g fv F (ac F (aI F 41 u)) W1)=>iS hF h1 hB5.p hc)
      go_wp2_with (first
        | (go_at_call 87;with_reducible refine(NC1.out _ U0.out.m).mono (Mz.k U0 fun nw1 N1=>?_))
        | (go_at_call 195;with_reducible refine(NC2.out _ N1.out.m).mono (Mz.k N1 fun nw2 N2=>?_))
        | (go_at_call 106;with_reducible refine(NC3.out _ N2.out.m).mono (Mz.k N2 fun nw3 N3=>?_))
        | (go_at_call 53;with_reducible refine(NC4.out _ N3.out.m).mono (Mz.k N3 fun nw4 N4=>?_))
        | fail)
      first|go_end0|refine bn ?_
      refine⟨rfl,?_⟩;rw[HT.out];unfold aO;simp only;rw[HE.out];simp only[hc,if_false,Bool.false_eq_true];exact N4.out
     ·have NC1:=Lib.hid (fun W1 (h1:Mk g fv F (u) W1)=>bB hF h1 hBu.p [124] (by decide) hb);have NC2:=Lib.hid (fun W1 (h1:Mk g fv F (u) W1)=>dA hF h1 (hBu.mono (by omega)) 41 (by decide));have NC3:=Lib.hid (fun W1 (h1:Mk g fv F (aI F 41 u) W1)=>bF hF h1 hB4.p);have NC4:=Lib.hid (fun W1 (h1:Mk g fv F (ac F (aI F 41 u)) W1)=>iR hF h1 hB5.p hc);have NC5:=Lib.hid (fun W1 (h1:Mk g fv F (ac F (aI F 41 u)) W1)=>uK hF hL HL h1 hq5 (hB5.mono (by omega)))
      go_wp2_with (first
        | (go_at_call 87;with_reducible refine(NC1.out _ U0.out.m).mono (Mz.k U0 fun nw1 N1=>?_))
        | (go_at_call 195;with_reducible refine(NC2.out _ N1.out.m).mono (Mz.k N1 fun nw2 N2=>?_))
        | (go_at_call 106;with_reducible refine(NC3.out _ N2.out.m).mono (Mz.k N2 fun nw3 N3=>?_))
        | (go_at_call 53;with_reducible refine(NC4.out _ N3.out.m).mono (Mz.k N3 fun nw4 N4=>?_))
        | (go_at_call 64;with_reducible refine(NC5.out _ N4.out.m).mono (Mz.k N4 fun nw5 N5=>?_))
        | fail)
      first|go_end0|refine bn ?_
      refine⟨rfl,?_⟩;rw[HT.out];unfold aO;simp only;rw[HE.out];simp only[hc,if_true];exact N5.out
    ·have hy:=LC.y (iu u hBu.p) (t:=aU F (ai u)) (by show (if _ then _ else _)=_;rw[if_pos hb]);have HE:=Lib.hid ((LC.stepy iu hBu.p (t:=aU F (ai u)) (by show (if _ then _ else _)=_;rw[if_pos hb])).symm.trans HU.out);have hlt:=au hb (by decide);have hn1:=hBu.next hlt (by omega);have YC1:=Lib.hid (fun W1 (h1:Mk g fv F (u) W1)=>bW hF h1 hBu.p [124] (by decide) hb);have YC2:=Lib.hid (fun W1 (h1:Mk g fv F (ai u) W1)=>jn hF h1 (hn1.mono (by omega)))
     go_wp2_with (first
       | (go_at_call 87;with_reducible refine(YC1.out _ U0.out.m).mono (Mz.k U0 fun yw1 Y1=>?_))
       | (go_at_call 194;with_reducible refine(YC2.out _ Y1.out.m).mono (Mz.k Y1 fun yw2 Y2=>?_))
       | fail)
     refine⟨⟨_,Nat.le_trans hqu (Nat.le_of_lt hy.2),hBu.gd hy.1,HE.out,Y2.out⟩,?_⟩;rw[Y2.out.m.pOf,HP.out]
     have:=hy.2
     have:=hy.1.N
     omega
theorem mL (hF:FB F) (hL:GL F L) (HL:cJ g fv F L q) (h:Mk g fv F s W) (hq:q≤s.p) (hB:Bd F 9 s) :
    Calls Tryz.prog 64 #[.pointer (some ⟨g,0,none⟩),.int .i64 15,.func (.func 214) #[.pointer (some ⟨g,0,none⟩)] #[]] W fun e w'=>e=.returned (.tuple #[])∧Mz g fv F W (an 15 (aO F L) s) w':=by
  have hi:=hB.inn 15;have hg:=uT hL (s:=ma 15 s) hi.p;have hn:=hF.n;have h1:=hg.l;have h2:=hg.N;rw[jq] at h1;exact pV (t:=aO F L (ma 15 s)) 15 _ h (hB.l5 hF (by omega)) (by omega) (enters_of Tryz.func214 (by kernel_rfl) rfl) (fun W1 h1=>D6 hF hL HL h1.m hq hi) (by omega) (by omega)
theorem En (F:List Lf) (c:UInt8) (s:Ps):am F [c] s=(sg F s.p==c):=by
  unfold am;rw[List.contains_cons];simp
theorem fq (hF:FB F) (h:Mk g fv F s W) (hs:s.p≤F.length) (c:UInt8) (hc:c=sg F s.p) :
    Calls Tryz.prog 75 #[.pointer (some ⟨g,0,none⟩),.int .i64 0] W fun e w'=>e=.returned (.int .u8 (c.toNat:Int))∧Mz g fv F W s w':=by
  have c0:=iK hF h hs 0 s.p (by omega) (.inl rfl);rw[←hc] at c0;exact c0.mono fun e w' ⟨h1,h2⟩=>⟨h1,(Mz.start h).next h2⟩
theorem CF (hF:FB F) (hL:GL F L) (HL:cJ g fv F L q) (h:Mk g fv F s W) (hq:q≤s.p) (hB:Bd F 0 s) :
    f9 190 g fv F W (.tuple #[]) (eR F L s):=by
  have hg1:=dk (F:=F) hB.p;have hB1:=hB.gd hg1;have hg2:=ar (F:=F) hB1.p;have hB2:=hB1.gd hg2;have hg3:=bj (F:=F) (c:=107) (by decide) hB2.p;have hB3:=hB2.gd hg3;have hg4:=ar (F:=F) hB3.p;have hB4:=hB3.gd hg4;have hq4:=Nat.le_trans hq (Nat.le_trans hg1.p (Nat.le_trans hg2.p (Nat.le_trans hg3.p hg4.p)));obtain⟨T,hT⟩:∃T,T=eR F L s:=⟨_,rfl⟩;rw[←hT];have HT:=Lib.hid hT;clear hT;have HC1:=Lib.hid (fun W1 (h1:Mk g fv F (s) W1)=>jn hF h1 (hB.mono (by omega)));have HC2:=Lib.hid (fun W1 (h1:Mk g fv F (aU F s) W1)=>bF hF h1 hB1.p);have HC3:=Lib.hid (fun W1 (h1:Mk g fv F (ac F (aU F s)) W1)=>dA hF h1 (hB2.mono (by omega)) 107 (by decide));have HC4:=Lib.hid (fun W1 (h1:Mk g fv F (aI F 107 (ac F (aU F s))) W1)=>bF hF h1 hB3.p);have H0:=Lib.hid (Mz.start h);clear h;go_enter Tryz.func190,Tryz.ntmps190;go_wp2_with fail;go_step3
  go_wp2_with (first
    | (go_at_call 194;with_reducible refine(HC1.out _ H0.out.m).mono (Mz.k H0 fun hw1 H1=>?_))
    | (go_at_call 106;with_reducible refine(HC2.out _ H1.out.m).mono (Mz.k H1 fun hw2 H2=>?_))
    | (go_at_call 195;with_reducible refine(HC3.out _ H2.out.m).mono (Mz.k H2 fun hw3 H3=>?_))
    | (go_at_call 106;with_reducible refine(HC4.out _ H3.out.m).mono (Mz.k H3 fun hw4 H4=>?_))
    | fail)
  go_step3;go_wp2_with fail;go_loopw [] (fun wr=>∃u:Ps,q≤u.p∧Bd F 5 u∧(aZ F.length (fun s=>if eF F s=true then (if am F [121] (an 15 (aO F L) s)=true then (ac F (ai (an 15 (aO F L) s)),true) else (an 15 (aO F L) s,false)) else (s,false))) u=(aZ F.length (fun s=>if eF F s=true then (if am F [121] (an 15 (aO F L) s)=true then (ac F (ai (an 15 (aO F L) s)),true) else (an 15 (aO F L) s,false)) else (s,false))) (ac F (aI F 107 (ac F (aU F s))))∧Mz g fv F W u wr) (fun wr=>F.length-pOf g wr)
  case atStart=>exact⟨_,hq4,hB4.mono (by omega),rfl,H4.out⟩
  case round=>
    obtain⟨u,hqu,hBu,hlu,hz⟩:=hrel;have U0:=Lib.hid hz;have HU:=Lib.hid hlu;have hup:=hz.m.pOf;have HP:=Lib.hid hup;clear hz hlu hup;have hib:eF F u=(am F [40] u||dW F u.p&&sg F u.p != 122):=by unfold eF;rw[En]
    cases x1:am F [40] u
    ·cases x2:dW F u.p
     ·have hb:eF F u=false:=by rw[hib,x1,x2];rfl
      clear hib;have HE:=Lib.hid (HU.out.symm.trans (LC.stepn (dw hL) hBu.p (t:=u) (by show (if _ then _ else _)=_;rw[if_neg (by rw[hb];decide)])));have NC1:=Lib.hid (fun W1 (h1:Mk g fv F (u) W1)=>lh hF h1 hBu.p [40] (by decide) x1);have NC2:=Lib.hid (fun W1 (h1:Mk g fv F (u) W1)=>cm hF h1 hBu.p x2);have NC3:=Lib.hid (fun W1 (h1:Mk g fv F (u) W1)=>dA hF h1 (hBu.mono (by omega)) 122 (by decide))
      go_wp2_with (first
        | (go_at_call 105;with_reducible refine(NC1.out _ U0.out.m).mono (Mz.k U0 fun nw1 N1=>?_))
        | (go_at_call 196;with_reducible refine(NC2.out _ N1.out.m).mono (Mz.k N1 fun nw2 N2=>?_))
        | (go_at_call 195;with_reducible refine(NC3.out _ N2.out.m).mono (Mz.k N2 fun nw3 N3=>?_))
        | fail)
      try rw[Exit.noGoto_normal]
      first|go_end0|refine bn ?_
      refine⟨rfl,?_⟩;rw[HT.out];unfold eR;rw[HE.out];exact N3.out
     ·obtain⟨c,hc3⟩:∃c,c=sg F u.p:=⟨_,rfl⟩;rw[x1,x2,←hc3] at hib;have HC3:=Lib.hid hc3;clear hc3;by_cases h9:c=122
      ·have hb:eF F u=false:=by rw[hib];simp[h9]
       have k9:((c.toNat:Int)==122)=true:=by rw[show ((c.toNat:Int)==122)=(c==122) from gZ c 122];simp[h9]
       have k8:((c.toNat:Int)!=122)=false:=by rw[bne,k9];rfl
       clear hib h9;have HE:=Lib.hid (HU.out.symm.trans (LC.stepn (dw hL) hBu.p (t:=u) (by show (if _ then _ else _)=_;rw[if_neg (by rw[hb];decide)])));have NC1:=Lib.hid (fun W1 (h1:Mk g fv F (u) W1)=>lh hF h1 hBu.p [40] (by decide) x1);have NC2:=Lib.hid (fun W1 (h1:Mk g fv F (u) W1)=>dH hF h1 hBu.p x2);have NC3:=Lib.hid (fun W1 (h1:Mk g fv F (u) W1)=>fq hF h1 hBu.p c HC3.out);have NC4:=Lib.hid (fun W1 (h1:Mk g fv F (u) W1)=>dA hF h1 (hBu.mono (by omega)) 122 (by decide))
       go_wp2_with (first
         | (go_at_call 105;with_reducible refine(NC1.out _ U0.out.m).mono (Mz.k U0 fun nw1 N1=>?_))
         | (go_at_call 196;with_reducible refine(NC2.out _ N1.out.m).mono (Mz.k N1 fun nw2 N2=>?_))
         | (go_at_call 75;with_reducible refine(NC3.out _ N2.out.m).mono (Mz.k N2 fun nw3 N3=>?_))
         | (go_at_call 195;with_reducible refine(NC4.out _ N3.out.m).mono (Mz.k N3 fun nw4 N4=>?_))
         | fail)
       try rw[Exit.noGoto_normal]
       first|go_end0|refine bn ?_
       refine⟨rfl,?_⟩;rw[HT.out];unfold eR;rw[HE.out];exact N4.out
      ·have hb:eF F u=true:=by rw[hib];simp[h9]
       have k9:((c.toNat:Int)==122)=false:=by rw[show ((c.toNat:Int)==122)=(c==122) from gZ c 122];exact beq_false_of_ne h9
       have k8:((c.toNat:Int)!=122)=true:=by rw[bne,k9];rfl
       clear hib h9;have hg6:=(mO hL hb).1;have hB6:=hBu.gd hg6;have hq6:=Nat.le_trans hqu hg6.p
       cases hc:am F [121] (an 15 (aO F L) u)
       ·have HE:=Lib.hid (HU.out.symm.trans (LC.stepn (dw hL) hBu.p (t:=an 15 (aO F L) u) (by show (if _ then (if _ then _ else _) else _)=_;rw[if_pos hb,if_neg (by rw[hc];decide)])));have NC1:=Lib.hid (fun W1 (h1:Mk g fv F (u) W1)=>lh hF h1 hBu.p [40] (by decide) x1);have NC2:=Lib.hid (fun W1 (h1:Mk g fv F (u) W1)=>dH hF h1 hBu.p x2);have NC3:=Lib.hid (fun W1 (h1:Mk g fv F (u) W1)=>fq hF h1 hBu.p c HC3.out);have NC4:=Lib.hid (fun W1 (h1:Mk g fv F (u) W1)=>mL hF hL HL h1 hqu (hBu.mono (by omega)));have NC5:=Lib.hid (fun W1 (h1:Mk g fv F (an 15 (aO F L) u) W1)=>bB hF h1 hB6.p [121] (by decide) hc);have NC6:=Lib.hid (fun W1 (h1:Mk g fv F (an 15 (aO F L) u) W1)=>dA hF h1 (hB6.mono (by omega)) 122 (by decide))
        go_wp2_with (first
          | (go_at_call 105;with_reducible refine(NC1.out _ U0.out.m).mono (Mz.k U0 fun nw1 N1=>?_))
          | (go_at_call 196;with_reducible refine(NC2.out _ N1.out.m).mono (Mz.k N1 fun nw2 N2=>?_))
          | (go_at_call 75;with_reducible refine(NC3.out _ N2.out.m).mono (Mz.k N2 fun nw3 N3=>?_))
          | (go_at_call 64;with_reducible refine(NC4.out _ N3.out.m).mono (Mz.k N3 fun nw4 N4=>?_))
          | (go_at_call 87;with_reducible refine(NC5.out _ N4.out.m).mono (Mz.k N4 fun nw5 N5=>?_))
          | (go_at_call 195;with_reducible refine(NC6.out _ N5.out.m).mono (Mz.k N5 fun nw6 N6=>?_))
          | fail)
        try rw[Exit.noGoto_normal]
        first|go_end0|refine bn ?_
        refine⟨rfl,?_⟩;rw[HT.out];unfold eR;rw[HE.out];exact N6.out
       ·have hlt:=au hc (by decide);have hn7:=hB6.next hlt (by omega);have he:(if eF F u=true then (if am F [121] (an 15 (aO F L) u)=true then (ac F (ai (an 15 (aO F L) u)),true) else (an 15 (aO F L) u,false)) else (u,false))=(ac F (ai (an 15 (aO F L) u)),true):=by rw[if_pos hb,if_pos hc]
        have hy:=LC.y (dw hL u hBu.p) (t:=ac F (ai (an 15 (aO F L) u))) he;have HE:=Lib.hid ((LC.stepy (dw hL) hBu.p (t:=ac F (ai (an 15 (aO F L) u))) he).symm.trans HU.out);clear he;have YC1:=Lib.hid (fun W1 (h1:Mk g fv F (u) W1)=>lh hF h1 hBu.p [40] (by decide) x1);have YC2:=Lib.hid (fun W1 (h1:Mk g fv F (u) W1)=>dH hF h1 hBu.p x2);have YC3:=Lib.hid (fun W1 (h1:Mk g fv F (u) W1)=>fq hF h1 hBu.p c HC3.out);have YC4:=Lib.hid (fun W1 (h1:Mk g fv F (u) W1)=>mL hF hL HL h1 hqu (hBu.mono (by omega)));have YC5:=Lib.hid (fun W1 (h1:Mk g fv F (an 15 (aO F L) u) W1)=>bW hF h1 hB6.p [121] (by decide) hc);have YC6:=Lib.hid (fun W1 (h1:Mk g fv F (ai (an 15 (aO F L) u)) W1)=>bF hF h1 hn7.p)
        go_wp2_with (first
          | (go_at_call 105;with_reducible refine(YC1.out _ U0.out.m).mono (Mz.k U0 fun yw1 Y1=>?_))
          | (go_at_call 196;with_reducible refine(YC2.out _ Y1.out.m).mono (Mz.k Y1 fun yw2 Y2=>?_))
          | (go_at_call 75;with_reducible refine(YC3.out _ Y2.out.m).mono (Mz.k Y2 fun yw3 Y3=>?_))
          | (go_at_call 64;with_reducible refine(YC4.out _ Y3.out.m).mono (Mz.k Y3 fun yw4 Y4=>?_))
          | (go_at_call 87;with_reducible refine(YC5.out _ Y4.out.m).mono (Mz.k Y4 fun yw5 Y5=>?_))
          | (go_at_call 106;with_reducible refine(YC6.out _ Y5.out.m).mono (Mz.k Y5 fun yw6 Y6=>?_))
          | fail)
        refine⟨⟨_,Nat.le_trans hqu (Nat.le_of_lt hy.2),hBu.gd hy.1,HE.out,Y6.out⟩,?_⟩;rw[Y6.out.m.pOf,HP.out]
        have:=hy.2
        have:=hy.1.N
        omega
    ·have hb:eF F u=true:=by rw[hib,x1];rfl
     clear hib;have hg6:=(mO hL hb).1;have hB6:=hBu.gd hg6;have hq6:=Nat.le_trans hqu hg6.p
     cases hc:am F [121] (an 15 (aO F L) u)
     ·have HE:=Lib.hid (HU.out.symm.trans (LC.stepn (dw hL) hBu.p (t:=an 15 (aO F L) u) (by show (if _ then (if _ then _ else _) else _)=_;rw[if_pos hb,if_neg (by rw[hc];decide)])));have NC1:=Lib.hid (fun W1 (h1:Mk g fv F (u) W1)=>su hF h1 hBu.p [40] (by decide) x1);have NC2:=Lib.hid (fun W1 (h1:Mk g fv F (u) W1)=>mL hF hL HL h1 hqu (hBu.mono (by omega)));have NC3:=Lib.hid (fun W1 (h1:Mk g fv F (an 15 (aO F L) u) W1)=>bB hF h1 hB6.p [121] (by decide) hc);have NC4:=Lib.hid (fun W1 (h1:Mk g fv F (an 15 (aO F L) u) W1)=>dA hF h1 (hB6.mono (by omega)) 122 (by decide))
      go_wp2_with (first
        | (go_at_call 105;with_reducible refine(NC1.out _ U0.out.m).mono (Mz.k U0 fun nw1 N1=>?_))
        | (go_at_call 64;with_reducible refine(NC2.out _ N1.out.m).mono (Mz.k N1 fun nw2 N2=>?_))
        | (go_at_call 87;with_reducible refine(NC3.out _ N2.out.m).mono (Mz.k N2 fun nw3 N3=>?_))
        | (go_at_call 195;with_reducible refine(NC4.out _ N3.out.m).mono (Mz.k N3 fun nw4 N4=>?_))
        | fail)
      try rw[Exit.noGoto_normal]
      first|go_end0|refine bn ?_
      refine⟨rfl,?_⟩;rw[HT.out];unfold eR;rw[HE.out];exact N4.out
     ·have hlt:=au hc (by decide);have hn7:=hB6.next hlt (by omega);have he:(if eF F u=true then (if am F [121] (an 15 (aO F L) u)=true then (ac F (ai (an 15 (aO F L) u)),true) else (an 15 (aO F L) u,false)) else (u,false))=(ac F (ai (an 15 (aO F L) u)),true):=by rw[if_pos hb,if_pos hc]
      have hy:=LC.y (dw hL u hBu.p) (t:=ac F (ai (an 15 (aO F L) u))) he;have HE:=Lib.hid ((LC.stepy (dw hL) hBu.p (t:=ac F (ai (an 15 (aO F L) u))) he).symm.trans HU.out);clear he;have YC1:=Lib.hid (fun W1 (h1:Mk g fv F (u) W1)=>su hF h1 hBu.p [40] (by decide) x1);have YC2:=Lib.hid (fun W1 (h1:Mk g fv F (u) W1)=>mL hF hL HL h1 hqu (hBu.mono (by omega)));have YC3:=Lib.hid (fun W1 (h1:Mk g fv F (an 15 (aO F L) u) W1)=>bW hF h1 hB6.p [121] (by decide) hc);have YC4:=Lib.hid (fun W1 (h1:Mk g fv F (ai (an 15 (aO F L) u)) W1)=>bF hF h1 hn7.p)
      go_wp2_with (first
        | (go_at_call 105;with_reducible refine(YC1.out _ U0.out.m).mono (Mz.k U0 fun yw1 Y1=>?_))
        | (go_at_call 64;with_reducible refine(YC2.out _ Y1.out.m).mono (Mz.k Y1 fun yw2 Y2=>?_))
        | (go_at_call 87;with_reducible refine(YC3.out _ Y2.out.m).mono (Mz.k Y2 fun yw3 Y3=>?_))
        | (go_at_call 106;with_reducible refine(YC4.out _ Y3.out.m).mono (Mz.k Y3 fun yw4 Y4=>?_))
        | fail)
      refine⟨⟨_,Nat.le_trans hqu (Nat.le_of_lt hy.2),hBu.gd hy.1,HE.out,Y4.out⟩,?_⟩;rw[Y4.out.m.pOf,HP.out]
      have:=hy.2
      have:=hy.1.N
      omega
theorem sq (hF:FB F) (h:Mk g fv F s W) (hs:s.p<F.length) (hB:Bd F 14 t) (hb:Bk W bx 101 #[.pointer (some ⟨g,0,none⟩)]) (hm:Bk W by_ 1 #[.func (.func fX) #[.pointer (some ⟨g,0,none⟩)] #[]]) (eg:∀args w,(callFunc fX args).run Tryz.prog w=.ok (.enter fX args) w) (hX:∀W1,Mk g fv F (ai s) W1→Calls Tryz.prog fX #[.pointer (some ⟨g,0,none⟩)] W1 fun e w'=>e=.returned (.tuple #[])∧Mz g fv F W1 t w') :
    Calls Tryz.prog 191 #[.pointer (some ⟨bx,0,none⟩),.pointer (some ⟨by_,0,none⟩)] W fun e w'=>e=.returned (.tuple #[])∧Mz g fv F W (cI F t) w':=by
  have hn:=hF.n;have v1:IntKind.i64.wrap ((s.p:Int)+1)=((s.p+1:Nat):Int):=by rw[IntWalk.i64_in _ (by omega)];omega
  obtain⟨c0,c1,c3,c4,f1,f2,f3,f4⟩:=h.cells;have b0:=hb.cell 0;have m0:W.cell? ⟨by_,0,none⟩=some (.func (.func fX) #[.pointer (some ⟨g,0,none⟩)] #[]):=hm.cell 0;have HBX:=Lib.hid hb;have HM:=Lib.hid hm;have HX:=Lib.hid hX;have H0:=Lib.hid (Mz.start h);clear h hb hm hX;go_enter Tryz.func191,Tryz.ntmps191;go_upto_region 1 with fail
  have h1:=H0.out.setP (s.p+1);rw[show ((s.p+1:Nat):Int)=(s.p:Int)+1 by omega] at h1;have H1:=Lib.hid h1;clear h1;have b1:=(Bk.kt HBX.out H1.out.f.kt (by decide)).cell 0;have m1:_=some (Value.func (.func fX) #[.pointer (some ⟨g,0,none⟩)] #[]):=(Bk.kt HM.out H1.out.f.kt (by decide)).cell 0;clear b0 m0 c0 c1 c3 c4 f1 f2 f3 f4;generalize W.setCell {block:=g,off:=1} (Value.int IntKind.i64 ((s.p:Int)+1))=W1 at *;have H1n:Mz g fv F W (ai s) W1:=H1.out;replace H1:=Lib.hid H1n;clear H1n;go_wp2_with (
    (with_reducible refine(HX.out _ H1.out.m).mono ?_
     rintro e w2 ⟨rfl,hz⟩;have H2:=Lib.hid (H1.out.then hz);have b0:=(Bk.kt HBX.out H2.out.f.kt (by decide)).cell 0;clear hz))
  go_loopw [] (fun wr=>∃u:Ps,Bd F 14 u∧(aZ F.length (fun s=>if aX F s=true then (cD F s,true) else (s,false))) u=(aZ F.length (fun s=>if aX F s=true then (cD F s,true) else (s,false))) t∧Mz g fv F W u wr) (fun wr=>F.length-pOf g wr)
  case atStart=>exact⟨_,hB,rfl,H2.out⟩
  case round=>
    obtain⟨u,hBu,hlu,hz⟩:=hrel;have U0:=Lib.hid hz;have HU:=Lib.hid hlu;have hup:=hz.m.pOf;have HP:=Lib.hid hup;have b0:=(Bk.kt HBX.out U0.out.f.kt (by decide)).cell 0;clear hz hlu hup
    cases hb:aX F u
    ·have HE:=Lib.hid (HU.out.symm.trans (LC.stepn fH hBu.p (t:=u) (by show (if _ then _ else _)=_;rw[if_neg (by rw[hb];decide)])));have HC1:=Lib.hid (fun W1 (h1:Mk g fv F u W1)=>eU hF h1 (hBu.mono (by omega)) hb);go_wp2_with (
       (go_at_call 192;with_reducible refine(HC1.out _ U0.out.m).mono (Mz.k U0 fun w3 U1=>?_)))
     first|go_end0|refine bn ?_
     refine⟨rfl,?_⟩;unfold cI;rw[HE.out];exact U1.out
    ·have hy:=LC.y (fH u hBu.p) (t:=cD F u) (by show (if _ then _ else _)=_;rw[if_pos hb]);have HE:=Lib.hid ((LC.stepy fH hBu.p (t:=cD F u) (by show (if _ then _ else _)=_;rw[if_pos hb])).symm.trans HU.out);have HC1:=Lib.hid (fun W1 (h1:Mk g fv F u W1)=>lZ hF h1 (hBu.mono (by omega)) hb);go_wp2_with (
       (go_at_call 192;with_reducible refine(HC1.out _ U0.out.m).mono (Mz.k U0 fun w3 U1=>?_)))
     refine⟨⟨_,hBu.gd hy.1,HE.out,U1.out⟩,?_⟩;rw[U1.out.m.pOf,HP.out]
     have:=hy.2
     have:=hy.1.N
     omega
end Go.Proofs.YtfagdpfgifgnoaaGreatDoor
