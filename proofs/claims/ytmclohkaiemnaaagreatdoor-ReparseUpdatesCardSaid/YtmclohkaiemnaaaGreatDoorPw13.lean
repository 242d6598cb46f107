/- The parser: for, no word behind it. -/
import Derived.Test.YtmclohkaiemnaaaGreatDoorPt13
set_option linter.unusedVariables false
set_option linter.unusedSimpArgs false
set_option maxRecDepth 100000
set_option maxHeartbeats 8000000
namespace Go.Proofs.YtmclohkaiemnaaaGreatDoor
open Go.RowKit
variable {F:List Lf} {g q:Nat} {s:Ps} {L:Ps→Ps} {fv:Value} {W:World}
theorem JG (hF:FB F) (h:Mk g fv F s W) (hB:Bd F 100 s) (hs:s.p<F.length) :
    Calls Tryz.prog 75 #[.pointer (some ⟨g,0,none⟩),.int .i64 6] W fun e w'=>e=.returned (.tuple #[])∧Mz g fv F W (eD 6 s) w':=wG 6 (by omega) hF h hB hs
theorem lP (hF:FB F) (h:Mk g fv F s W) (hB:Bd F 100 s) (hs:s.p<F.length) :
    Calls Tryz.prog 75 #[.pointer (some ⟨g,0,none⟩),.int .i64 7] W fun e w'=>e=.returned (.tuple #[])∧Mz g fv F W (eD 7 s) w':=wG 7 (by omega) hF h hB hs
theorem yx (hF:FB F) (h:Mk g fv F s W) (hB:Bd F 100 s) (hs:s.p<F.length) :
    Calls Tryz.prog 75 #[.pointer (some ⟨g,0,none⟩),.int .i64 17] W fun e w'=>e=.returned (.tuple #[])∧Mz g fv F W (eD 17 s) w':=wG 17 (by omega) hF h hB hs
theorem ql (hs:s.p≤F.length) (h:ef F [110] s=false):dW F s=s:=
  LC.stepn i7 hs (by show (if _ then _ else _)=_;rw[aC (by rw[h];decide)])
theorem J9 (hF:FB F) (hL:GL F L) (HL:ia g fv F L q) (h:Mk g fv F s W) (hq:q≤s.p) (hB:Bd F 0 s) (hw:iw F s.p=false) :
    lw 176 g fv F W (.tuple #[]) (gR F L s):=by
  have hmix:Tryz.prog.follows .mixedOrders=true:=by kernel_rfl
  obtain⟨T,hT⟩:∃T,T=gR F L s:=⟨_,rfl⟩;rw[←hT];have HT:=ac hT;clear hT;have hn:=hF.n;have hw0:=fun W1 (h1:Mk g fv F s W1)=>mt hF h1 hB.p
  rw[hw] at hw0;have HW:=ac hw0;obtain⟨y0,y1,y3,y4,_⟩:=h.cells;obtain⟨A,c,hfv⟩:=h.f.formm;have H0:=ac (Mz.start h);clear h hw0 y3 y4 hfv;have hcond:(iw F s.p&&iC (tx F s.p))=false:=by rw[hw];rfl
  have hg1:=gV (F:=F) hB.p;have hB1:=hB.gd hg1;have hq1:=aA hq hg1.p;go_enter Tryz.func176,Tryz.ntmps176;go_wp2_with fail;obtain⟨S0,hS0⟩:∃S0:World→Prop,S0=fun w'=>Below W.heap.size W w':=⟨_,rfl⟩
  refine wp_region_held (S:=S0) hmix ?_;show wpAnyH _ _ _ _ _ _ _ _ W.drew;have hS1:S0 W.drew:=by rw[hS0];exact(ay _ W).drew
  have tc:∀(w':World),S0 w'→∀(a:Addr) (v:Value),W.cell? a=some v→w'.cell? a=some v:=fun w' h a v hc=>jc (by rw[hS0] at h;exact h) hc
  refine tk 0 (.pointer (some ⟨g,0,none⟩)) hS1 (fun w' hS=>?_) ?_
  ·go_simp
  try simp only[Act.put,am,ai,aj,aa,an,ar]
  refine wpAnyH_all (rs:=[1]) (by decide +kernel) (by simp) (nX rfl (by rfl) (fun K2 hK2=>?_) (nY (S:=S0)));go_simp;go_at_call 183;refine(HW.out _ (H0.out.m.next (ay _ W).drew).1).mono ?_;rintro e w1 ⟨rfl,hz⟩;have HB:=ac ((ay _ W).drew.trans hz);clear hz;have hS2:S0 w1:=by rw[hS0];exact HB.out
  refine hK2 _ _ hS2 ?_;clear hK2 K2;try simp only[Act.put,am,ai,aj,aa,an,ar]
  refine tk 2 (.bool false) hS2 (fun w' hS=>?_) ?_
  ·go_simp
  try simp only[Act.put,am,ai,aj,aa,an,ar]
  refine sk 3 hS2 ?_;try simp only[Act.put,am,ai,aj,aa,an,ar]
  refine sk 4 hS2 ?_;try simp only[Act.put,am,ai,aj,aa,an,ar]
  refine sk 5 hS2 ?_;try simp only[Act.put,am,ai,aj,aa,an,ar]
  refine sk 6 hS2 ?_;try simp only[Act.put,am,ai,aj,aa,an,ar]
  refine sk 7 hS2 ?_;try simp only[Act.put,am,ai,aj,aa,an,ar]
  refine sk 8 hS2 ?_;try simp only[Act.put,am,ai,aj,aa,an,ar]
  refine sk 9 hS2 ?_;try simp only[Act.put,am,ai,aj,aa,an,ar]
  refine sk 10 hS2 ?_;try simp only[Act.put,am,ai,aj,aa,an,ar]
  refine sk 11 hS2 ?_;try simp only[Act.put,am,ai,aj,aa,an,ar]
  refine sk 12 hS2 ?_;try simp only[Act.put,am,ai,aj,aa,an,ar]
  refine sk 13 hS2 ?_;try simp only[Act.put,am,ai,aj,aa,an,ar]
  refine sk 14 hS2 ?_;try simp only[Act.put,am,ai,aj,aa,an,ar]
  refine tk 15 (.bool false) hS2 (fun w' hS=>?_) ?_
  ·go_simp
  try simp only[Act.put,am,ai,aj,aa,an,ar]
  refine wpAnyH_done (by decide +kernel) ?_ _;have E0:=ac (H0.out.next HB.out);clear hS0 hS1 hS2 tc
  cases ha:ef F [59] (fe s)
  ·have hg3:=ej (F:=F) hB1.p;have hB3:=hB1.gd hg3;have hq3:=aA hq1 hg3.p
   cases hk:ef F [107] (dW F (fe s))
   ·have AC1:=ac (fun W1 (h1:Mk g fv F (s) W1)=>gz hF h1 (hB.mono (by omega)));have AC2:=ac (fun W1 (h1:Mk g fv F (fe s) W1)=>fE hF h1 hB1.p [59] (by decide) ha);have AC3:=ac (fun W1 (h1:Mk g fv F (fe s) W1)=>fT hF h1 hB1.p);have AC4:=ac (fun W1 (h1:Mk g fv F (dW F (fe s)) W1)=>fE hF h1 hB3.p [107] (by decide) hk);have AC5:=ac (fun W1 (h1:Mk g fv F (dW F (fe s)) W1)=>jg hF hL HL h1 hq3 (hB3.mono (by omega)))
    go_wp2_with (first
      | (go_at_call 120;with_reducible refine(AC1.out _ E0.out.m).mono (Mz.k E0 fun aw1 A1=>?_))
      | (go_at_call 73;with_reducible refine(AC2.out _ A1.out.m).mono (Mz.k A1 fun aw2 A2=>?_))
      | (go_at_call 92;with_reducible refine(AC3.out _ A2.out.m).mono (Mz.k A2 fun aw3 A3=>?_))
      | (go_at_call 73;with_reducible refine(AC4.out _ A3.out.m).mono (Mz.k A3 fun aw4 A4=>?_))
      | (go_at_call 200;with_reducible refine(AC5.out _ A4.out.m).mono (Mz.k A4 fun aw5 A5=>?_))
      | fail)
    first|go_end0|refine bn ?_
    refine⟨rfl,?_⟩;rw[HT.out];unfold gR;simp only[hcond,bp,aH];rw[aC (by rw[ha];decide),aC (by rw[hk];decide)];exact A5.out
   ·have hlt3:=er hk (by decide);have hn4:=hB3.next hlt3 (by omega);have hq4:q≤(dY (dW F (fe s))).p:=aA hq3 (bW _);have AC1:=ac (fun W1 (h1:Mk g fv F (s) W1)=>gz hF h1 (hB.mono (by omega)));have AC2:=ac (fun W1 (h1:Mk g fv F (fe s) W1)=>fE hF h1 hB1.p [59] (by decide) ha);have AC3:=ac (fun W1 (h1:Mk g fv F (fe s) W1)=>fT hF h1 hB1.p);have AC4:=ac (fun W1 (h1:Mk g fv F (dW F (fe s)) W1)=>gD hF h1 hB3.p [107] (by decide) hk)
    go_wp2_with (first
      | (go_at_call 120;with_reducible refine(AC1.out _ E0.out.m).mono (Mz.k E0 fun aw1 A1=>?_))
      | (go_at_call 73;with_reducible refine(AC2.out _ A1.out.m).mono (Mz.k A1 fun aw2 A2=>?_))
      | (go_at_call 92;with_reducible refine(AC3.out _ A2.out.m).mono (Mz.k A2 fun aw3 A3=>?_))
      | (go_at_call 73;with_reducible refine(AC4.out _ A3.out.m).mono (Mz.k A3 fun aw4 A4=>?_))
      | fail)
    go_loopw [] (fun wr=>∃u:Ps,q≤u.p∧Bd F 0 u∧(eV F.length (fun s=>if iw F s.p=true then (eD 7 s,true) else (s,false))) u=(eV F.length (fun s=>if iw F s.p=true then (eD 7 s,true) else (s,false))) (dY (dW F (fe s)))∧Mz g fv F W u wr) (fun wr=>F.length-pOf g wr)
    case atStart=>exact⟨_,hq4,hn4,rfl,A4.out⟩
    case round=>
      obtain⟨u,hqu,hBu,hlu,hz⟩:=hrel;have U0:=ac hz;have HU:=ac hlu;have hup:=hz.m.pOf;have HP:=ac hup;clear hz hlu hup
      cases hb:iw F u.p
      ·have HE:=ac (HU.out.symm.trans (LC.stepn ix hBu.p (t:=u) (by show (if _ then _ else _)=_;rw[aC (by rw[hb];decide)])))
       cases hs9:ef F [59] u
       ·have hg7:=ej (F:=F) hBu.p;have hB7:=hBu.gd hg7;have hq7:=aA hqu hg7.p
        cases hy9:ef F [110] u
        ·have hg8:=gV (F:=F) hB7.p;have hB8:=hB7.gd hg8;have hq8:=aA hq7 hg8.p;have e9:=ac (ql hBu.p hy9);have NC1:=ac (fun W1 (h1:Mk g fv F (u) W1)=>gP hF h1 hBu.p hb);have NC2:=ac (fun W1 (h1:Mk g fv F (u) W1)=>fE hF h1 hBu.p [59] (by decide) hs9);have NC3:=ac (fun W1 (h1:Mk g fv F (u) W1)=>lh hF h1 hBu.p hy9);have NC4:=ac (fun W1 (h1:Mk g fv F (dW F u) W1)=>gz hF h1 (hB7.mono (by omega)));have NC5:=ac (fun W1 (h1:Mk g fv F (fe (dW F u)) W1)=>jg hF hL HL h1 hq8 (hB8.mono (by omega)))
         go_wp2_with (first
           | (go_at_call 183;with_reducible refine(NC1.out _ U0.out.m).mono (Mz.k U0 fun nw1 N1=>?_))
           | (go_at_call 73;with_reducible refine(NC2.out _ N1.out.m).mono (Mz.k N1 fun nw2 N2=>?_))
           | (go_at_call 92;with_reducible refine(NC3.out _ N2.out.m).mono (Mz.k N2 fun nw3 N3=>?_))
           | (go_at_call 120;with_reducible refine(NC4.out _ N3.out.m).mono (Mz.k N3 fun nw4 N4=>?_))
           | (go_at_call 200;with_reducible refine(NC5.out _ N4.out.m).mono (Mz.k N4 fun nw5 N5=>?_))
           | fail)
         first|go_end0|refine bn ?_
         refine⟨rfl,?_⟩;rw[HT.out];unfold gR;simp only[hcond,bp,aH];rw[aC (by rw[ha];decide),aB hk];unfold uB jm;simp only;rw[HE.out];rw[aC (by rw[hs9];decide),aC (by rw[hy9];decide)];rw[←show fe (dW F u)=fe u by rw[e9.out]];exact N5.out
        ·have NC1:=ac (fun W1 (h1:Mk g fv F (u) W1)=>gP hF h1 hBu.p hb);have NC2:=ac (fun W1 (h1:Mk g fv F (u) W1)=>fE hF h1 hBu.p [59] (by decide) hs9);have NC3:=ac (fun W1 (h1:Mk g fv F (u) W1)=>jW hF h1 hBu.p hy9);have NC4:=ac (fun W1 (h1:Mk g fv F (dW F u) W1)=>jg hF hL HL h1 hq7 (hB7.mono (by omega)))
         go_wp2_with (first
           | (go_at_call 183;with_reducible refine(NC1.out _ U0.out.m).mono (Mz.k U0 fun nw1 N1=>?_))
           | (go_at_call 73;with_reducible refine(NC2.out _ N1.out.m).mono (Mz.k N1 fun nw2 N2=>?_))
           | (go_at_call 92;with_reducible refine(NC3.out _ N2.out.m).mono (Mz.k N2 fun nw3 N3=>?_))
           | (go_at_call 200;with_reducible refine(NC4.out _ N3.out.m).mono (Mz.k N3 fun nw4 N4=>?_))
           | fail)
         first|go_end0|refine bn ?_
         refine⟨rfl,?_⟩;rw[HT.out];unfold gR;simp only[hcond,bp,aH];rw[aC (by rw[ha];decide),aB hk];unfold uB jm;simp only;rw[HE.out];rw[aC (by rw[hs9];decide),aB hy9];exact N4.out
       ·have hlt5:=er hs9 (by decide);have hn6:=hBu.next hlt5 (by omega);have hg7:=ej (F:=F) hn6.p;have hB7:=hn6.gd hg7;have hq7:q≤(dW F (dY u)).p:=aA hqu (aA (bW _) hg7.p)
        cases hy9:ef F [110] (dY u);have NC1:=ac (fun W1 (h1:Mk g fv F (u) W1)=>gP hF h1 hBu.p hb);have NC2:=ac (fun W1 (h1:Mk g fv F (u) W1)=>gD hF h1 hBu.p [59] (by decide) hs9);have NC3:=ac (fun W1 (h1:Mk g fv F (dY u) W1)=>lh hF h1 hn6.p hy9)
        rotate_left
        have NC1:=ac (fun W1 (h1:Mk g fv F (u) W1)=>gP hF h1 hBu.p hb);have NC2:=ac (fun W1 (h1:Mk g fv F (u) W1)=>gD hF h1 hBu.p [59] (by decide) hs9);have NC3:=ac (fun W1 (h1:Mk g fv F (dY u) W1)=>jW hF h1 hn6.p hy9)
        rotate_left
        all_goals (
          have NC4:=ac (fun W1 (h1:Mk g fv F (dW F (dY u)) W1)=>jg hF hL HL h1 hq7 (hB7.mono (by omega)))
          go_wp2_with (first
            | (go_at_call 183;with_reducible refine(NC1.out _ U0.out.m).mono (Mz.k U0 fun nw1 N1=>?_))
            | (go_at_call 73;with_reducible refine(NC2.out _ N1.out.m).mono (Mz.k N1 fun nw2 N2=>?_))
            | (go_at_call 92;with_reducible refine(NC3.out _ N2.out.m).mono (Mz.k N2 fun nw3 N3=>?_))
            | (go_at_call 200;with_reducible refine(NC4.out _ N3.out.m).mono (Mz.k N3 fun nw4 N4=>?_))
            | fail)
          first|go_end0|refine bn ?_
          refine⟨rfl,?_⟩;rw[HT.out];unfold gR;simp only[hcond,bp,aH];rw[aC (by rw[ha];decide),aB hk];unfold uB jm;simp only;rw[HE.out];rw[aB hs9];exact N4.out)
      ·have hlu2:=fO hb;have hy:=LC.y (ix u hBu.p) (t:=eD 7 u) (by show (if _ then _ else _)=_;rw[aB hb]);have HE:=ac ((LC.stepy ix hBu.p (t:=eD 7 u) (by show (if _ then _ else _)=_;rw[aB hb])).symm.trans HU.out);have YC1:=ac (fun W1 (h1:Mk g fv F (u) W1)=>i9 hF h1 hBu.p hb);have YC2:=ac (fun W1 (h1:Mk g fv F (u) W1)=>lP hF h1 (hBu.mono (by omega)) hlu2)
       go_wp2_with (first
         | (go_at_call 183;with_reducible refine(YC1.out _ U0.out.m).mono (Mz.k U0 fun yw1 Y1=>?_))
         | (go_at_call 75;with_reducible refine(YC2.out _ Y1.out.m).mono (Mz.k Y1 fun yw2 Y2=>?_))
         | fail)
       refine⟨⟨_,aA hqu (aM hy.2),hBu.gd hy.1,HE.out,Y2.out⟩,?_⟩;rw[Y2.out.m.pOf,HP.out]
       have:=hy.2
       have:=hy.1.N
       omega
  ·have hlt2:=er ha (by decide);have hn2:=hB1.next hlt2 (by omega);have hg3:=ej (F:=F) hn2.p;have hB3:=hn2.gd hg3;have hq3:q≤(dW F (dY (fe s))).p:=aA hq1 (aA (bW _) hg3.p);have AC1:=ac (fun W1 (h1:Mk g fv F (s) W1)=>gz hF h1 (hB.mono (by omega)));have AC2:=ac (fun W1 (h1:Mk g fv F (fe s) W1)=>gD hF h1 hB1.p [59] (by decide) ha);have AC3:=ac (fun W1 (h1:Mk g fv F (dY (fe s)) W1)=>fT hF h1 hn2.p);have AC4:=ac (fun W1 (h1:Mk g fv F (dW F (dY (fe s))) W1)=>jg hF hL HL h1 hq3 (hB3.mono (by omega)))
   go_wp2_with (first
     | (go_at_call 120;with_reducible refine(AC1.out _ E0.out.m).mono (Mz.k E0 fun aw1 A1=>?_))
     | (go_at_call 73;with_reducible refine(AC2.out _ A1.out.m).mono (Mz.k A1 fun aw2 A2=>?_))
     | (go_at_call 92;with_reducible refine(AC3.out _ A2.out.m).mono (Mz.k A2 fun aw3 A3=>?_))
     | (go_at_call 200;with_reducible refine(AC4.out _ A3.out.m).mono (Mz.k A3 fun aw4 A4=>?_))
     | fail)
   first|go_end0|refine bn ?_
   refine⟨rfl,?_⟩;rw[HT.out];unfold gR;simp only[hcond,bp,aH];rw[aB ha];exact A4.out
theorem J8 (hF:FB F) (hL:GL F L) (HL:ia g fv F L q) (h:Mk g fv F s W) (hq:q≤s.p) (hB:Bd F 0 s) (hw:iw F s.p=true) (hnm:iC (tx F s.p)=false) :
    lw 176 g fv F W (.tuple #[]) (gR F L s):=by
  have hmix:Tryz.prog.follows .mixedOrders=true:=by kernel_rfl
  obtain⟨T,hT⟩:∃T,T=gR F L s:=⟨_,rfl⟩;rw[←hT];have HT:=ac hT;clear hT;have hn:=hF.n;have hw0:=fun W1 (h1:Mk g fv F s W1)=>mt hF h1 hB.p
  rw[hw] at hw0;have HW:=ac hw0;obtain⟨y0,y1,y3,y4,_⟩:=h.cells;obtain⟨A,c,hfv⟩:=h.f.formm;have H0:=ac (Mz.start h);have hlt:=fO hw;obtain⟨x,hx⟩:∃x,F[s.p]? = some x:=⟨_,ax hlt⟩;have htx:tx F s.p=x.tx:=by unfold tx;rw[hx]
  have htl:=hF.t x (aI hx);have hf9:=h.f;rw[hfv] at hf9;obtain⟨g1,o1,hA9,z0,z1,z2,z3⟩:=gZ hf9 hx rfl;rw[hfv,hA9] at y0;have u1:(s.p:Int)<(F.length:Int):=by omega
  have u2:(0:Int)≤(s.p:Int):=by omega
  have hn9:=fun W=>tJ x.tx W (by omega)
  rw[←htx] at hn9;rw[hnm] at hn9;rw[htx] at hn9;have HN:=ac hn9;clear hn9 htx hx htl z0 z2 z3 hf9 hA9;clear h hw0 y3 y4 hfv;have hcond:(iw F s.p&&iC (tx F s.p))=false:=by rw[hw,hnm];rfl
  have hg1:=gV (F:=F) hB.p;have hB1:=hB.gd hg1;have hq1:=aA hq hg1.p;go_enter Tryz.func176,Tryz.ntmps176;go_wp2_with fail;obtain⟨S0,hS0⟩:∃S0:World→Prop,S0=fun w'=>Below W.heap.size W w':=⟨_,rfl⟩
  refine wp_region_held (S:=S0) hmix ?_;show wpAnyH _ _ _ _ _ _ _ _ W.drew;have hS1:S0 W.drew:=by rw[hS0];exact(ay _ W).drew
  have tc:∀(w':World),S0 w'→∀(a:Addr) (v:Value),W.cell? a=some v→w'.cell? a=some v:=fun w' h a v hc=>jc (by rw[hS0] at h;exact h) hc
  refine tk 0 (.pointer (some ⟨g,0,none⟩)) hS1 (fun w' hS=>?_) ?_
  ·go_simp
  try simp only[Act.put,am,ai,aj,aa,an,ar]
  refine wpAnyH_all (rs:=[1]) (by decide +kernel) (by simp) (nX rfl (by rfl) (fun K2 hK2=>?_) (nY (S:=S0)));go_simp;go_at_call 183;refine(HW.out _ (H0.out.m.next (ay _ W).drew).1).mono ?_;rintro e w1 ⟨rfl,hz⟩;have HB:=ac ((ay _ W).drew.trans hz);clear hz;have hS2:S0 w1:=by rw[hS0];exact HB.out
  refine hK2 _ _ hS2 ?_;clear hK2 K2;try simp only[Act.put,am,ai,aj,aa,an,ar]
  refine tk 2 (.bool true) hS2 (fun w' hS=>?_) ?_
  ·go_simp
  try simp only[Act.put,am,ai,aj,aa,an,ar]
  refine tk 3 (.pointer (some ⟨g,0,none⟩)) hS2 (fun w' hS=>?_) ?_
  ·go_simp
  try simp only[Act.put,am,ai,aj,aa,an,ar]
  refine tk 4 (.pointer (some ⟨g,0,none⟩)) hS2 (fun w' hS=>?_) ?_
  ·go_simp
  try simp only[Act.put,am,ai,aj,aa,an,ar]
  refine tk 5 (.pointer (some ⟨g,0,none⟩)) hS2 (fun w' hS=>?_) ?_
  ·go_simp
  try simp only[Act.put,am,ai,aj,aa,an,ar]
  refine tk 6 (.slice (some ⟨g1,o1,none⟩) F.length c) hS2 (fun w' hS=>?_) ?_
  ·have c0:=tc w' hS _ _ y0;go_simp
  try simp only[Act.put,am,ai,aj,aa,an,ar]
  refine tk 7 (.pointer (some ⟨g,0,none⟩)) hS2 (fun w' hS=>?_) ?_
  ·go_simp
  try simp only[Act.put,am,ai,aj,aa,an,ar]
  refine tk 8 (.pointer (some ⟨g,0,none⟩)) hS2 (fun w' hS=>?_) ?_
  ·go_simp
  try simp only[Act.put,am,ai,aj,aa,an,ar]
  refine tk 9 (.pointer (some ⟨g,1,none⟩)) hS2 (fun w' hS=>?_) ?_
  ·go_simp
  try simp only[Act.put,am,ai,aj,aa,an,ar]
  refine tk 10 (.int .i64 (s.p:Int)) hS2 (fun w' hS=>?_) ?_
  ·have c0:=tc w' hS _ _ y1;go_simp
  try simp only[Act.put,am,ai,aj,aa,an,ar]
  refine tk 11 (.pointer (some ⟨g1,o1+s.p*4,none⟩)) hS2 (fun w' hS=>?_) ?_
  ·go_simp
  try simp only[Act.put,am,ai,aj,aa,an,ar]
  refine tk 12 (.pointer (some ⟨g1,o1+s.p*4+1,none⟩)) hS2 (fun w' hS=>?_) ?_
  ·go_simp
  try simp only[Act.put,am,ai,aj,aa,an,ar]
  refine tk 13 (.string ⟨x.tx.toArray⟩) hS2 (fun w' hS=>?_) ?_
  ·have c0:=tc w' hS _ _ z1;go_simp
  try simp only[Act.put,am,ai,aj,aa,an,ar]
  refine wpAnyH_all (rs:=[14]) (by decide +kernel) (by simp) (nX rfl (by rfl) (fun K2 hK2=>?_) (nY (S:=S0)));go_simp;go_at_call 180;refine(HN.out _).mono ?_;rintro e w2 ⟨rfl,rfl⟩;have hS3:S0 w2:=by rw[hS0];exact HB.out
  refine hK2 _ _ hS3 ?_;clear hK2 K2;try simp only[Act.put,am,ai,aj,aa,an,ar]
  refine tk 15 (.bool false) hS3 (fun w' hS=>?_) ?_
  ·go_simp
  try simp only[Act.put,am,ai,aj,aa,an,ar]
  refine wpAnyH_done (by decide +kernel) ?_ _;have E0:=ac (H0.out.next HB.out);clear hS0 hS1 hS2 tc hS3
  cases ha:ef F [59] (fe s)
  ·have hg3:=ej (F:=F) hB1.p;have hB3:=hB1.gd hg3;have hq3:=aA hq1 hg3.p
   cases hk:ef F [107] (dW F (fe s))
   ·have AC1:=ac (fun W1 (h1:Mk g fv F (s) W1)=>gz hF h1 (hB.mono (by omega)));have AC2:=ac (fun W1 (h1:Mk g fv F (fe s) W1)=>fE hF h1 hB1.p [59] (by decide) ha);have AC3:=ac (fun W1 (h1:Mk g fv F (fe s) W1)=>fT hF h1 hB1.p);have AC4:=ac (fun W1 (h1:Mk g fv F (dW F (fe s)) W1)=>fE hF h1 hB3.p [107] (by decide) hk);have AC5:=ac (fun W1 (h1:Mk g fv F (dW F (fe s)) W1)=>jg hF hL HL h1 hq3 (hB3.mono (by omega)))
    go_wp2_with (first
      | (go_at_call 120;with_reducible refine(AC1.out _ E0.out.m).mono (Mz.k E0 fun aw1 A1=>?_))
      | (go_at_call 73;with_reducible refine(AC2.out _ A1.out.m).mono (Mz.k A1 fun aw2 A2=>?_))
      | (go_at_call 92;with_reducible refine(AC3.out _ A2.out.m).mono (Mz.k A2 fun aw3 A3=>?_))
      | (go_at_call 73;with_reducible refine(AC4.out _ A3.out.m).mono (Mz.k A3 fun aw4 A4=>?_))
      | (go_at_call 200;with_reducible refine(AC5.out _ A4.out.m).mono (Mz.k A4 fun aw5 A5=>?_))
      | fail)
    first|go_end0|refine bn ?_
    refine⟨rfl,?_⟩;rw[HT.out];unfold gR;simp only[hcond,bp,aH];rw[aC (by rw[ha];decide),aC (by rw[hk];decide)];exact A5.out
   ·have hlt3:=er hk (by decide);have hn4:=hB3.next hlt3 (by omega);have hq4:q≤(dY (dW F (fe s))).p:=aA hq3 (bW _);have AC1:=ac (fun W1 (h1:Mk g fv F (s) W1)=>gz hF h1 (hB.mono (by omega)));have AC2:=ac (fun W1 (h1:Mk g fv F (fe s) W1)=>fE hF h1 hB1.p [59] (by decide) ha);have AC3:=ac (fun W1 (h1:Mk g fv F (fe s) W1)=>fT hF h1 hB1.p);have AC4:=ac (fun W1 (h1:Mk g fv F (dW F (fe s)) W1)=>gD hF h1 hB3.p [107] (by decide) hk)
    go_wp2_with (first
      | (go_at_call 120;with_reducible refine(AC1.out _ E0.out.m).mono (Mz.k E0 fun aw1 A1=>?_))
      | (go_at_call 73;with_reducible refine(AC2.out _ A1.out.m).mono (Mz.k A1 fun aw2 A2=>?_))
      | (go_at_call 92;with_reducible refine(AC3.out _ A2.out.m).mono (Mz.k A2 fun aw3 A3=>?_))
      | (go_at_call 73;with_reducible refine(AC4.out _ A3.out.m).mono (Mz.k A3 fun aw4 A4=>?_))
      | fail)
    go_loopw [] (fun wr=>∃u:Ps,q≤u.p∧Bd F 0 u∧(eV F.length (fun s=>if iw F s.p=true then (eD 7 s,true) else (s,false))) u=(eV F.length (fun s=>if iw F s.p=true then (eD 7 s,true) else (s,false))) (dY (dW F (fe s)))∧Mz g fv F W u wr) (fun wr=>F.length-pOf g wr)
    case atStart=>exact⟨_,hq4,hn4,rfl,A4.out⟩
    case round=>
      obtain⟨u,hqu,hBu,hlu,hz⟩:=hrel;have U0:=ac hz;have HU:=ac hlu;have hup:=hz.m.pOf;have HP:=ac hup;clear hz hlu hup
      cases hb:iw F u.p
      ·have HE:=ac (HU.out.symm.trans (LC.stepn ix hBu.p (t:=u) (by show (if _ then _ else _)=_;rw[aC (by rw[hb];decide)])))
       cases hs9:ef F [59] u
       ·have hg7:=ej (F:=F) hBu.p;have hB7:=hBu.gd hg7;have hq7:=aA hqu hg7.p
        cases hy9:ef F [110] u
        ·have hg8:=gV (F:=F) hB7.p;have hB8:=hB7.gd hg8;have hq8:=aA hq7 hg8.p;have e9:=ac (ql hBu.p hy9);have NC1:=ac (fun W1 (h1:Mk g fv F (u) W1)=>gP hF h1 hBu.p hb);have NC2:=ac (fun W1 (h1:Mk g fv F (u) W1)=>fE hF h1 hBu.p [59] (by decide) hs9);have NC3:=ac (fun W1 (h1:Mk g fv F (u) W1)=>lh hF h1 hBu.p hy9);have NC4:=ac (fun W1 (h1:Mk g fv F (dW F u) W1)=>gz hF h1 (hB7.mono (by omega)));have NC5:=ac (fun W1 (h1:Mk g fv F (fe (dW F u)) W1)=>jg hF hL HL h1 hq8 (hB8.mono (by omega)))
         go_wp2_with (first
           | (go_at_call 183;with_reducible refine(NC1.out _ U0.out.m).mono (Mz.k U0 fun nw1 N1=>?_))
           | (go_at_call 73;with_reducible refine(NC2.out _ N1.out.m).mono (Mz.k N1 fun nw2 N2=>?_))
           | (go_at_call 92;with_reducible refine(NC3.out _ N2.out.m).mono (Mz.k N2 fun nw3 N3=>?_))
           | (go_at_call 120;with_reducible refine(NC4.out _ N3.out.m).mono (Mz.k N3 fun nw4 N4=>?_))
           | (go_at_call 200;with_reducible refine(NC5.out _ N4.out.m).mono (Mz.k N4 fun nw5 N5=>?_))
           | fail)
         first|go_end0|refine bn ?_
         refine⟨rfl,?_⟩;rw[HT.out];unfold gR;simp only[hcond,bp,aH];rw[aC (by rw[ha];decide),aB hk];unfold uB jm;simp only;rw[HE.out];rw[aC (by rw[hs9];decide),aC (by rw[hy9];decide)];rw[←show fe (dW F u)=fe u by rw[e9.out]];exact N5.out
        ·have NC1:=ac (fun W1 (h1:Mk g fv F (u) W1)=>gP hF h1 hBu.p hb);have NC2:=ac (fun W1 (h1:Mk g fv F (u) W1)=>fE hF h1 hBu.p [59] (by decide) hs9);have NC3:=ac (fun W1 (h1:Mk g fv F (u) W1)=>jW hF h1 hBu.p hy9);have NC4:=ac (fun W1 (h1:Mk g fv F (dW F u) W1)=>jg hF hL HL h1 hq7 (hB7.mono (by omega)))
         go_wp2_with (first
           | (go_at_call 183;with_reducible refine(NC1.out _ U0.out.m).mono (Mz.k U0 fun nw1 N1=>?_))
           | (go_at_call 73;with_reducible refine(NC2.out _ N1.out.m).mono (Mz.k N1 fun nw2 N2=>?_))
           | (go_at_call 92;with_reducible refine(NC3.out _ N2.out.m).mono (Mz.k N2 fun nw3 N3=>?_))
           | (go_at_call 200;with_reducible refine(NC4.out _ N3.out.m).mono (Mz.k N3 fun nw4 N4=>?_))
           | fail)
         first|go_end0|refine bn ?_
         refine⟨rfl,?_⟩;rw[HT.out];unfold gR;simp only[hcond,bp,aH];rw[aC (by rw[ha];decide),aB hk];unfold uB jm;simp only;rw[HE.out];rw[aC (by rw[hs9];decide),aB hy9];exact N4.out
       ·have hlt5:=er hs9 (by decide);have hn6:=hBu.next hlt5 (by omega);have hg7:=ej (F:=F) hn6.p;have hB7:=hn6.gd hg7;have hq7:q≤(dW F (dY u)).p:=aA hqu (aA (bW _) hg7.p)
        cases hy9:ef F [110] (dY u);have NC1:=ac (fun W1 (h1:Mk g fv F (u) W1)=>gP hF h1 hBu.p hb);have NC2:=ac (fun W1 (h1:Mk g fv F (u) W1)=>gD hF h1 hBu.p [59] (by decide) hs9);have NC3:=ac (fun W1 (h1:Mk g fv F (dY u) W1)=>lh hF h1 hn6.p hy9)
        rotate_left
        have NC1:=ac (fun W1 (h1:Mk g fv F (u) W1)=>gP hF h1 hBu.p hb);have NC2:=ac (fun W1 (h1:Mk g fv F (u) W1)=>gD hF h1 hBu.p [59] (by decide) hs9);have NC3:=ac (fun W1 (h1:Mk g fv F (dY u) W1)=>jW hF h1 hn6.p hy9)
        rotate_left
        all_goals (
          have NC4:=ac (fun W1 (h1:Mk g fv F (dW F (dY u)) W1)=>jg hF hL HL h1 hq7 (hB7.mono (by omega)))
          go_wp2_with (first
            | (go_at_call 183;with_reducible refine(NC1.out _ U0.out.m).mono (Mz.k U0 fun nw1 N1=>?_))
            | (go_at_call 73;with_reducible refine(NC2.out _ N1.out.m).mono (Mz.k N1 fun nw2 N2=>?_))
            | (go_at_call 92;with_reducible refine(NC3.out _ N2.out.m).mono (Mz.k N2 fun nw3 N3=>?_))
            | (go_at_call 200;with_reducible refine(NC4.out _ N3.out.m).mono (Mz.k N3 fun nw4 N4=>?_))
            | fail)
          first|go_end0|refine bn ?_
          refine⟨rfl,?_⟩;rw[HT.out];unfold gR;simp only[hcond,bp,aH];rw[aC (by rw[ha];decide),aB hk];unfold uB jm;simp only;rw[HE.out];rw[aB hs9];exact N4.out)
      ·have hlu2:=fO hb;have hy:=LC.y (ix u hBu.p) (t:=eD 7 u) (by show (if _ then _ else _)=_;rw[aB hb]);have HE:=ac ((LC.stepy ix hBu.p (t:=eD 7 u) (by show (if _ then _ else _)=_;rw[aB hb])).symm.trans HU.out);have YC1:=ac (fun W1 (h1:Mk g fv F (u) W1)=>i9 hF h1 hBu.p hb);have YC2:=ac (fun W1 (h1:Mk g fv F (u) W1)=>lP hF h1 (hBu.mono (by omega)) hlu2)
       go_wp2_with (first
         | (go_at_call 183;with_reducible refine(YC1.out _ U0.out.m).mono (Mz.k U0 fun yw1 Y1=>?_))
         | (go_at_call 75;with_reducible refine(YC2.out _ Y1.out.m).mono (Mz.k Y1 fun yw2 Y2=>?_))
         | fail)
       refine⟨⟨_,aA hqu (aM hy.2),hBu.gd hy.1,HE.out,Y2.out⟩,?_⟩;rw[Y2.out.m.pOf,HP.out]
       have:=hy.2
       have:=hy.1.N
       omega
  ·have hlt2:=er ha (by decide);have hn2:=hB1.next hlt2 (by omega);have hg3:=ej (F:=F) hn2.p;have hB3:=hn2.gd hg3;have hq3:q≤(dW F (dY (fe s))).p:=aA hq1 (aA (bW _) hg3.p);have AC1:=ac (fun W1 (h1:Mk g fv F (s) W1)=>gz hF h1 (hB.mono (by omega)));have AC2:=ac (fun W1 (h1:Mk g fv F (fe s) W1)=>gD hF h1 hB1.p [59] (by decide) ha);have AC3:=ac (fun W1 (h1:Mk g fv F (dY (fe s)) W1)=>fT hF h1 hn2.p);have AC4:=ac (fun W1 (h1:Mk g fv F (dW F (dY (fe s))) W1)=>jg hF hL HL h1 hq3 (hB3.mono (by omega)))
   go_wp2_with (first
     | (go_at_call 120;with_reducible refine(AC1.out _ E0.out.m).mono (Mz.k E0 fun aw1 A1=>?_))
     | (go_at_call 73;with_reducible refine(AC2.out _ A1.out.m).mono (Mz.k A1 fun aw2 A2=>?_))
     | (go_at_call 92;with_reducible refine(AC3.out _ A2.out.m).mono (Mz.k A2 fun aw3 A3=>?_))
     | (go_at_call 200;with_reducible refine(AC4.out _ A3.out.m).mono (Mz.k A3 fun aw4 A4=>?_))
     | fail)
   first|go_end0|refine bn ?_
   refine⟨rfl,?_⟩;rw[HT.out];unfold gR;simp only[hcond,bp,aH];rw[aB ha];exact A4.out
theorem J7 (hF:FB F) (hL:GL F L) (HL:ia g fv F L q) (h:Mk g fv F s W) (hq:q≤s.p) (hB:Bd F 0 s) (hw:iw F s.p=true) (hnm:iC (tx F s.p)=true) :
    lw 176 g fv F W (.tuple #[]) (gR F L s):=by
  have hmix:Tryz.prog.follows .mixedOrders=true:=by kernel_rfl
  obtain⟨T,hT⟩:∃T,T=gR F L s:=⟨_,rfl⟩;rw[←hT];have HT:=ac hT;clear hT;have hn:=hF.n;have hw0:=fun W1 (h1:Mk g fv F s W1)=>mt hF h1 hB.p
  rw[hw] at hw0;have HW:=ac hw0;obtain⟨y0,y1,y3,y4,_⟩:=h.cells;obtain⟨A,c,hfv⟩:=h.f.formm;have H0:=ac (Mz.start h);have hlt:=fO hw;obtain⟨x,hx⟩:∃x,F[s.p]? = some x:=⟨_,ax hlt⟩;have htx:tx F s.p=x.tx:=by unfold tx;rw[hx]
  have htl:=hF.t x (aI hx);have hf9:=h.f;rw[hfv] at hf9;obtain⟨g1,o1,hA9,z0,z1,z2,z3⟩:=gZ hf9 hx rfl;rw[hfv,hA9] at y0;have u1:(s.p:Int)<(F.length:Int):=by omega
  have u2:(0:Int)≤(s.p:Int):=by omega
  have hn9:=fun W=>tJ x.tx W (by omega)
  rw[←htx] at hn9;rw[hnm] at hn9;rw[htx] at hn9;have HN:=ac hn9;clear hn9 htx hx htl z0 z2 z3 hf9 hA9;clear h hw0 y3 y4 hfv;have hcond:(iw F s.p&&iC (tx F s.p))=true:=by rw[hw,hnm];rfl
  have hg1:=(fR (F:=F) (k:=7) hlt).1;have hB1:=hB.gd hg1;have hq1:=aA hq hg1.p;go_enter Tryz.func176,Tryz.ntmps176;go_wp2_with fail;obtain⟨S0,hS0⟩:∃S0:World→Prop,S0=fun w'=>Below W.heap.size W w':=⟨_,rfl⟩
  refine wp_region_held (S:=S0) hmix ?_;show wpAnyH _ _ _ _ _ _ _ _ W.drew;have hS1:S0 W.drew:=by rw[hS0];exact(ay _ W).drew
  have tc:∀(w':World),S0 w'→∀(a:Addr) (v:Value),W.cell? a=some v→w'.cell? a=some v:=fun w' h a v hc=>jc (by rw[hS0] at h;exact h) hc
  refine tk 0 (.pointer (some ⟨g,0,none⟩)) hS1 (fun w' hS=>?_) ?_
  ·go_simp
  try simp only[Act.put,am,ai,aj,aa,an,ar]
  refine wpAnyH_all (rs:=[1]) (by decide +kernel) (by simp) (nX rfl (by rfl) (fun K2 hK2=>?_) (nY (S:=S0)));go_simp;go_at_call 183;refine(HW.out _ (H0.out.m.next (ay _ W).drew).1).mono ?_;rintro e w1 ⟨rfl,hz⟩;have HB:=ac ((ay _ W).drew.trans hz);clear hz;have hS2:S0 w1:=by rw[hS0];exact HB.out
  refine hK2 _ _ hS2 ?_;clear hK2 K2;try simp only[Act.put,am,ai,aj,aa,an,ar]
  refine tk 2 (.bool true) hS2 (fun w' hS=>?_) ?_
  ·go_simp
  try simp only[Act.put,am,ai,aj,aa,an,ar]
  refine tk 3 (.pointer (some ⟨g,0,none⟩)) hS2 (fun w' hS=>?_) ?_
  ·go_simp
  try simp only[Act.put,am,ai,aj,aa,an,ar]
  refine tk 4 (.pointer (some ⟨g,0,none⟩)) hS2 (fun w' hS=>?_) ?_
  ·go_simp
  try simp only[Act.put,am,ai,aj,aa,an,ar]
  refine tk 5 (.pointer (some ⟨g,0,none⟩)) hS2 (fun w' hS=>?_) ?_
  ·go_simp
  try simp only[Act.put,am,ai,aj,aa,an,ar]
  refine tk 6 (.slice (some ⟨g1,o1,none⟩) F.length c) hS2 (fun w' hS=>?_) ?_
  ·have c0:=tc w' hS _ _ y0;go_simp
  try simp only[Act.put,am,ai,aj,aa,an,ar]
  refine tk 7 (.pointer (some ⟨g,0,none⟩)) hS2 (fun w' hS=>?_) ?_
  ·go_simp
  try simp only[Act.put,am,ai,aj,aa,an,ar]
  refine tk 8 (.pointer (some ⟨g,0,none⟩)) hS2 (fun w' hS=>?_) ?_
  ·go_simp
  try simp only[Act.put,am,ai,aj,aa,an,ar]
  refine tk 9 (.pointer (some ⟨g,1,none⟩)) hS2 (fun w' hS=>?_) ?_
  ·go_simp
  try simp only[Act.put,am,ai,aj,aa,an,ar]
  refine tk 10 (.int .i64 (s.p:Int)) hS2 (fun w' hS=>?_) ?_
  ·have c0:=tc w' hS _ _ y1;go_simp
  try simp only[Act.put,am,ai,aj,aa,an,ar]
  refine tk 11 (.pointer (some ⟨g1,o1+s.p*4,none⟩)) hS2 (fun w' hS=>?_) ?_
  ·go_simp
  try simp only[Act.put,am,ai,aj,aa,an,ar]
  refine tk 12 (.pointer (some ⟨g1,o1+s.p*4+1,none⟩)) hS2 (fun w' hS=>?_) ?_
  ·go_simp
  try simp only[Act.put,am,ai,aj,aa,an,ar]
  refine tk 13 (.string ⟨x.tx.toArray⟩) hS2 (fun w' hS=>?_) ?_
  ·have c0:=tc w' hS _ _ z1;go_simp
  try simp only[Act.put,am,ai,aj,aa,an,ar]
  refine wpAnyH_all (rs:=[14]) (by decide +kernel) (by simp) (nX rfl (by rfl) (fun K2 hK2=>?_) (nY (S:=S0)));go_simp;go_at_call 180;refine(HN.out _).mono ?_;rintro e w2 ⟨rfl,rfl⟩;have hS3:S0 w2:=by rw[hS0];exact HB.out
  refine hK2 _ _ hS3 ?_;clear hK2 K2;try simp only[Act.put,am,ai,aj,aa,an,ar]
  refine tk 15 (.bool true) hS3 (fun w' hS=>?_) ?_
  ·go_simp
  try simp only[Act.put,am,ai,aj,aa,an,ar]
  refine wpAnyH_done (by decide +kernel) ?_ _;have E0:=ac (H0.out.next HB.out);clear hS0 hS1 hS2 tc hS3
  cases ha:ef F [59] (eD 7 s)
  ·have hg3:=ej (F:=F) hB1.p;have hB3:=hB1.gd hg3;have hq3:=aA hq1 hg3.p
   cases hk:ef F [107] (dW F (eD 7 s))
   ·have AC1:=ac (fun W1 (h1:Mk g fv F (s) W1)=>lP hF h1 (hB.mono (by omega)) hlt);have AC2:=ac (fun W1 (h1:Mk g fv F (eD 7 s) W1)=>fE hF h1 hB1.p [59] (by decide) ha);have AC3:=ac (fun W1 (h1:Mk g fv F (eD 7 s) W1)=>fT hF h1 hB1.p);have AC4:=ac (fun W1 (h1:Mk g fv F (dW F (eD 7 s)) W1)=>fE hF h1 hB3.p [107] (by decide) hk);have AC5:=ac (fun W1 (h1:Mk g fv F (dW F (eD 7 s)) W1)=>jg hF hL HL h1 hq3 (hB3.mono (by omega)))
    go_wp2_with (first
      | (go_at_call 75;with_reducible refine(AC1.out _ E0.out.m).mono (Mz.k E0 fun aw1 A1=>?_))
      | (go_at_call 73;with_reducible refine(AC2.out _ A1.out.m).mono (Mz.k A1 fun aw2 A2=>?_))
      | (go_at_call 92;with_reducible refine(AC3.out _ A2.out.m).mono (Mz.k A2 fun aw3 A3=>?_))
      | (go_at_call 73;with_reducible refine(AC4.out _ A3.out.m).mono (Mz.k A3 fun aw4 A4=>?_))
      | (go_at_call 200;with_reducible refine(AC5.out _ A4.out.m).mono (Mz.k A4 fun aw5 A5=>?_))
      | fail)
    first|go_end0|refine bn ?_
    refine⟨rfl,?_⟩;rw[HT.out];unfold gR;simp only[hcond,bP];rw[aC (by rw[ha];decide),aC (by rw[hk];decide)];exact A5.out
   ·have hlt3:=er hk (by decide);have hn4:=hB3.next hlt3 (by omega);have hq4:q≤(dY (dW F (eD 7 s))).p:=aA hq3 (bW _);have AC1:=ac (fun W1 (h1:Mk g fv F (s) W1)=>lP hF h1 (hB.mono (by omega)) hlt);have AC2:=ac (fun W1 (h1:Mk g fv F (eD 7 s) W1)=>fE hF h1 hB1.p [59] (by decide) ha);have AC3:=ac (fun W1 (h1:Mk g fv F (eD 7 s) W1)=>fT hF h1 hB1.p);have AC4:=ac (fun W1 (h1:Mk g fv F (dW F (eD 7 s)) W1)=>gD hF h1 hB3.p [107] (by decide) hk)
    go_wp2_with (first
      | (go_at_call 75;with_reducible refine(AC1.out _ E0.out.m).mono (Mz.k E0 fun aw1 A1=>?_))
      | (go_at_call 73;with_reducible refine(AC2.out _ A1.out.m).mono (Mz.k A1 fun aw2 A2=>?_))
      | (go_at_call 92;with_reducible refine(AC3.out _ A2.out.m).mono (Mz.k A2 fun aw3 A3=>?_))
      | (go_at_call 73;with_reducible refine(AC4.out _ A3.out.m).mono (Mz.k A3 fun aw4 A4=>?_))
      | fail)
    go_loopw [] (fun wr=>∃u:Ps,q≤u.p∧Bd F 0 u∧(eV F.length (fun s=>if iw F s.p=true then (eD 7 s,true) else (s,false))) u=(eV F.length (fun s=>if iw F s.p=true then (eD 7 s,true) else (s,false))) (dY (dW F (eD 7 s)))∧Mz g fv F W u wr) (fun wr=>F.length-pOf g wr)
    case atStart=>exact⟨_,hq4,hn4,rfl,A4.out⟩
    case round=>
      obtain⟨u,hqu,hBu,hlu,hz⟩:=hrel;have U0:=ac hz;have HU:=ac hlu;have hup:=hz.m.pOf;have HP:=ac hup;clear hz hlu hup
      cases hb:iw F u.p
      ·have HE:=ac (HU.out.symm.trans (LC.stepn ix hBu.p (t:=u) (by show (if _ then _ else _)=_;rw[aC (by rw[hb];decide)])))
       cases hs9:ef F [59] u
       ·have hg7:=ej (F:=F) hBu.p;have hB7:=hBu.gd hg7;have hq7:=aA hqu hg7.p
        cases hy9:ef F [110] u
        ·have hg8:=gV (F:=F) hB7.p;have hB8:=hB7.gd hg8;have hq8:=aA hq7 hg8.p;have e9:=ac (ql hBu.p hy9);have NC1:=ac (fun W1 (h1:Mk g fv F (u) W1)=>gP hF h1 hBu.p hb);have NC2:=ac (fun W1 (h1:Mk g fv F (u) W1)=>fE hF h1 hBu.p [59] (by decide) hs9);have NC3:=ac (fun W1 (h1:Mk g fv F (u) W1)=>lh hF h1 hBu.p hy9);have NC4:=ac (fun W1 (h1:Mk g fv F (dW F u) W1)=>gz hF h1 (hB7.mono (by omega)));have NC5:=ac (fun W1 (h1:Mk g fv F (fe (dW F u)) W1)=>jg hF hL HL h1 hq8 (hB8.mono (by omega)))
         go_wp2_with (first
           | (go_at_call 183;with_reducible refine(NC1.out _ U0.out.m).mono (Mz.k U0 fun nw1 N1=>?_))
           | (go_at_call 73;with_reducible refine(NC2.out _ N1.out.m).mono (Mz.k N1 fun nw2 N2=>?_))
           | (go_at_call 92;with_reducible refine(NC3.out _ N2.out.m).mono (Mz.k N2 fun nw3 N3=>?_))
           | (go_at_call 120;with_reducible refine(NC4.out _ N3.out.m).mono (Mz.k N3 fun nw4 N4=>?_))
           | (go_at_call 200;with_reducible refine(NC5.out _ N4.out.m).mono (Mz.k N4 fun nw5 N5=>?_))
           | fail)
         first|go_end0|refine bn ?_
         refine⟨rfl,?_⟩;rw[HT.out];unfold gR;simp only[hcond,bP];rw[aC (by rw[ha];decide),aB hk];unfold uB jm;simp only;rw[HE.out];rw[aC (by rw[hs9];decide),aC (by rw[hy9];decide)];rw[←show fe (dW F u)=fe u by rw[e9.out]];exact N5.out
        ·have NC1:=ac (fun W1 (h1:Mk g fv F (u) W1)=>gP hF h1 hBu.p hb);have NC2:=ac (fun W1 (h1:Mk g fv F (u) W1)=>fE hF h1 hBu.p [59] (by decide) hs9);have NC3:=ac (fun W1 (h1:Mk g fv F (u) W1)=>jW hF h1 hBu.p hy9);have NC4:=ac (fun W1 (h1:Mk g fv F (dW F u) W1)=>jg hF hL HL h1 hq7 (hB7.mono (by omega)))
         go_wp2_with (first
           | (go_at_call 183;with_reducible refine(NC1.out _ U0.out.m).mono (Mz.k U0 fun nw1 N1=>?_))
           | (go_at_call 73;with_reducible refine(NC2.out _ N1.out.m).mono (Mz.k N1 fun nw2 N2=>?_))
           | (go_at_call 92;with_reducible refine(NC3.out _ N2.out.m).mono (Mz.k N2 fun nw3 N3=>?_))
           | (go_at_call 200;with_reducible refine(NC4.out _ N3.out.m).mono (Mz.k N3 fun nw4 N4=>?_))
           | fail)
         first|go_end0|refine bn ?_
         refine⟨rfl,?_⟩;rw[HT.out];unfold gR;simp only[hcond,bP];rw[aC (by rw[ha];decide),aB hk];unfold uB jm;simp only;rw[HE.out];rw[aC (by rw[hs9];decide),aB hy9];exact N4.out
       ·have hlt5:=er hs9 (by decide);have hn6:=hBu.next hlt5 (by omega);have hg7:=ej (F:=F) hn6.p;have hB7:=hn6.gd hg7;have hq7:q≤(dW F (dY u)).p:=aA hqu (aA (bW _) hg7.p)
        cases hy9:ef F [110] (dY u);have NC1:=ac (fun W1 (h1:Mk g fv F (u) W1)=>gP hF h1 hBu.p hb);have NC2:=ac (fun W1 (h1:Mk g fv F (u) W1)=>gD hF h1 hBu.p [59] (by decide) hs9);have NC3:=ac (fun W1 (h1:Mk g fv F (dY u) W1)=>lh hF h1 hn6.p hy9)
        rotate_left
        have NC1:=ac (fun W1 (h1:Mk g fv F (u) W1)=>gP hF h1 hBu.p hb);have NC2:=ac (fun W1 (h1:Mk g fv F (u) W1)=>gD hF h1 hBu.p [59] (by decide) hs9);have NC3:=ac (fun W1 (h1:Mk g fv F (dY u) W1)=>jW hF h1 hn6.p hy9)
        rotate_left
        all_goals (
          have NC4:=ac (fun W1 (h1:Mk g fv F (dW F (dY u)) W1)=>jg hF hL HL h1 hq7 (hB7.mono (by omega)))
          go_wp2_with (first
            | (go_at_call 183;with_reducible refine(NC1.out _ U0.out.m).mono (Mz.k U0 fun nw1 N1=>?_))
            | (go_at_call 73;with_reducible refine(NC2.out _ N1.out.m).mono (Mz.k N1 fun nw2 N2=>?_))
            | (go_at_call 92;with_reducible refine(NC3.out _ N2.out.m).mono (Mz.k N2 fun nw3 N3=>?_))
            | (go_at_call 200;with_reducible refine(NC4.out _ N3.out.m).mono (Mz.k N3 fun nw4 N4=>?_))
            | fail)
          first|go_end0|refine bn ?_
          refine⟨rfl,?_⟩;rw[HT.out];unfold gR;simp only[hcond,bP];rw[aC (by rw[ha];decide),aB hk];unfold uB jm;simp only;rw[HE.out];rw[aB hs9];exact N4.out)
      ·have hlu2:=fO hb;have hy:=LC.y (ix u hBu.p) (t:=eD 7 u) (by show (if _ then _ else _)=_;rw[aB hb]);have HE:=ac ((LC.stepy ix hBu.p (t:=eD 7 u) (by show (if _ then _ else _)=_;rw[aB hb])).symm.trans HU.out);have YC1:=ac (fun W1 (h1:Mk g fv F (u) W1)=>i9 hF h1 hBu.p hb);have YC2:=ac (fun W1 (h1:Mk g fv F (u) W1)=>lP hF h1 (hBu.mono (by omega)) hlu2)
       go_wp2_with (first
         | (go_at_call 183;with_reducible refine(YC1.out _ U0.out.m).mono (Mz.k U0 fun yw1 Y1=>?_))
         | (go_at_call 75;with_reducible refine(YC2.out _ Y1.out.m).mono (Mz.k Y1 fun yw2 Y2=>?_))
         | fail)
       refine⟨⟨_,aA hqu (aM hy.2),hBu.gd hy.1,HE.out,Y2.out⟩,?_⟩;rw[Y2.out.m.pOf,HP.out]
       have:=hy.2
       have:=hy.1.N
       omega
  ·have hlt2:=er ha (by decide);have hn2:=hB1.next hlt2 (by omega);have hg3:=ej (F:=F) hn2.p;have hB3:=hn2.gd hg3;have hq3:q≤(dW F (dY (eD 7 s))).p:=aA hq1 (aA (bW _) hg3.p);have AC1:=ac (fun W1 (h1:Mk g fv F (s) W1)=>lP hF h1 (hB.mono (by omega)) hlt);have AC2:=ac (fun W1 (h1:Mk g fv F (eD 7 s) W1)=>gD hF h1 hB1.p [59] (by decide) ha);have AC3:=ac (fun W1 (h1:Mk g fv F (dY (eD 7 s)) W1)=>fT hF h1 hn2.p);have AC4:=ac (fun W1 (h1:Mk g fv F (dW F (dY (eD 7 s))) W1)=>jg hF hL HL h1 hq3 (hB3.mono (by omega)))
   go_wp2_with (first
     | (go_at_call 75;with_reducible refine(AC1.out _ E0.out.m).mono (Mz.k E0 fun aw1 A1=>?_))
     | (go_at_call 73;with_reducible refine(AC2.out _ A1.out.m).mono (Mz.k A1 fun aw2 A2=>?_))
     | (go_at_call 92;with_reducible refine(AC3.out _ A2.out.m).mono (Mz.k A2 fun aw3 A3=>?_))
     | (go_at_call 200;with_reducible refine(AC4.out _ A3.out.m).mono (Mz.k A3 fun aw4 A4=>?_))
     | fail)
   first|go_end0|refine bn ?_
   refine⟨rfl,?_⟩;rw[HT.out];unfold gR;simp only[hcond,bP];rw[aB ha];exact A4.out
end Go.Proofs.YtmclohkaiemnaaaGreatDoor
