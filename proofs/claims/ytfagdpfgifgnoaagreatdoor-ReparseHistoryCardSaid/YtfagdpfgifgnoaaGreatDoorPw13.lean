/- The parser: for, no word behind it. -/
import Derived.Test.YtfagdpfgifgnoaaGreatDoorPt13
set_option linter.unusedVariables false
set_option linter.unusedSimpArgs false
set_option maxRecDepth 100000
set_option maxHeartbeats 8000000
namespace Go.Proofs.YtfagdpfgifgnoaaGreatDoor
open Go.RowKit
variable {F:List Lf} {g q:Nat} {s:Ps} {L:Ps→Ps} {fv:Value} {W:World}
theorem B5 (hF:FB F) (h:Mk g fv F s W) (hB:Bd F 100 s) (hs:s.p<F.length) :
    Calls Tryz.prog 89 #[.pointer (some ⟨g,0,none⟩),.int .i64 6] W fun e w'=>e=.returned (.tuple #[])∧Mz g fv F W (aD 6 s) w':=tI 6 (by omega) hF h hB hs
theorem gu (hF:FB F) (h:Mk g fv F s W) (hB:Bd F 100 s) (hs:s.p<F.length) :
    Calls Tryz.prog 89 #[.pointer (some ⟨g,0,none⟩),.int .i64 7] W fun e w'=>e=.returned (.tuple #[])∧Mz g fv F W (aD 7 s) w':=tI 7 (by omega) hF h hB hs
theorem kM (hs:s.p≤F.length) (h:am F [110] s=false):ac F s=s:=
  LC.stepn fy hs (by show (if _ then _ else _)=_;rw[if_neg (by rw[h];decide)])
theorem Cw (hF:FB F) (hL:GL F L) (HL:cJ g fv F L q) (h:Mk g fv F s W) (hq:q≤s.p) (hB:Bd F 0 s) (hw:dW F s.p=false) :
    f9 189 g fv F W (.tuple #[]) (cG F L s):=by
  have hmix:Tryz.prog.follows .mixedOrders=true:=by kernel_rfl
  obtain⟨T,hT⟩:∃T,T=cG F L s:=⟨_,rfl⟩;rw[←hT];have HT:=Lib.hid hT;clear hT;have hn:=hF.n;have hw0:=fun W1 (h1:Mk g fv F s W1)=>gO hF h1 hB.p
  rw[hw] at hw0;have HW:=Lib.hid hw0;obtain⟨y0,y1,y3,y4,_⟩:=h.cells;obtain⟨A,c,hfv⟩:=h.f.formm;have H0:=Lib.hid (Mz.start h);clear h hw0 y3 y4 hfv;have hcond:(dW F s.p&&eC (tx F s.p))=false:=by rw[hw];rfl
  have hg1:=cO (F:=F) hB.p;have hB1:=hB.gd hg1;have hq1:=Nat.le_trans hq hg1.p;go_enter Tryz.func189,Tryz.ntmps189;go_wp2_with fail;obtain⟨S0,hS0⟩:∃S0:World→Prop,S0=fun w'=>Below W.heap.size W w':=⟨_,rfl⟩
  refine wp_region_held (S:=S0) hmix ?_;show wpAnyH _ _ _ _ _ _ _ _ W.drew;have hS1:S0 W.drew:=by rw[hS0];exact(Below.refl _ W).drew
  have tc:∀(w':World),S0 w'→∀(a:Addr) (v:Value),W.cell? a=some v→w'.cell? a=some v:=fun w' h a v hc=>wj (by rw[hS0] at h;exact h) hc
  refine tk 0 (.pointer (some ⟨g,0,none⟩)) hS1 (fun w' hS=>?_) ?_
  ·go_simp
  try simp only[Act.put,List.getElem_toArray,List.getElem_cons_succ,List.getElem_cons_zero,List.setIfInBounds_toArray,List.set_cons_zero,List.set_cons_succ]
  refine wpAnyH_all (rs:=[1]) (by decide +kernel) (by simp) (jI rfl (by rfl) (fun K2 hK2=>?_) (jJ (S:=S0)));go_simp;go_at_call 196;refine(HW.out _ (H0.out.m.next (Below.refl _ W).drew).1).mono ?_;rintro e w1 ⟨rfl,hz⟩;have HB:=Lib.hid ((Below.refl _ W).drew.trans hz);clear hz;have hS2:S0 w1:=by rw[hS0];exact HB.out
  refine hK2 _ _ hS2 ?_;clear hK2 K2;try simp only[Act.put,List.getElem_toArray,List.getElem_cons_succ,List.getElem_cons_zero,List.setIfInBounds_toArray,List.set_cons_zero,List.set_cons_succ]
  refine tk 2 (.bool false) hS2 (fun w' hS=>?_) ?_
  ·go_simp
  try simp only[Act.put,List.getElem_toArray,List.getElem_cons_succ,List.getElem_cons_zero,List.setIfInBounds_toArray,List.set_cons_zero,List.set_cons_succ]
  refine sk 3 hS2 ?_;try simp only[Act.put,List.getElem_toArray,List.getElem_cons_succ,List.getElem_cons_zero,List.setIfInBounds_toArray,List.set_cons_zero,List.set_cons_succ]
  refine sk 4 hS2 ?_;try simp only[Act.put,List.getElem_toArray,List.getElem_cons_succ,List.getElem_cons_zero,List.setIfInBounds_toArray,List.set_cons_zero,List.set_cons_succ]
  refine sk 5 hS2 ?_;try simp only[Act.put,List.getElem_toArray,List.getElem_cons_succ,List.getElem_cons_zero,List.setIfInBounds_toArray,List.set_cons_zero,List.set_cons_succ]
  refine sk 6 hS2 ?_;try simp only[Act.put,List.getElem_toArray,List.getElem_cons_succ,List.getElem_cons_zero,List.setIfInBounds_toArray,List.set_cons_zero,List.set_cons_succ]
  refine sk 7 hS2 ?_;try simp only[Act.put,List.getElem_toArray,List.getElem_cons_succ,List.getElem_cons_zero,List.setIfInBounds_toArray,List.set_cons_zero,List.set_cons_succ]
  refine sk 8 hS2 ?_;try simp only[Act.put,List.getElem_toArray,List.getElem_cons_succ,List.getElem_cons_zero,List.setIfInBounds_toArray,List.set_cons_zero,List.set_cons_succ]
  refine sk 9 hS2 ?_;try simp only[Act.put,List.getElem_toArray,List.getElem_cons_succ,List.getElem_cons_zero,List.setIfInBounds_toArray,List.set_cons_zero,List.set_cons_succ]
  refine sk 10 hS2 ?_;try simp only[Act.put,List.getElem_toArray,List.getElem_cons_succ,List.getElem_cons_zero,List.setIfInBounds_toArray,List.set_cons_zero,List.set_cons_succ]
  refine sk 11 hS2 ?_;try simp only[Act.put,List.getElem_toArray,List.getElem_cons_succ,List.getElem_cons_zero,List.setIfInBounds_toArray,List.set_cons_zero,List.set_cons_succ]
  refine sk 12 hS2 ?_;try simp only[Act.put,List.getElem_toArray,List.getElem_cons_succ,List.getElem_cons_zero,List.setIfInBounds_toArray,List.set_cons_zero,List.set_cons_succ]
  refine sk 13 hS2 ?_;try simp only[Act.put,List.getElem_toArray,List.getElem_cons_succ,List.getElem_cons_zero,List.setIfInBounds_toArray,List.set_cons_zero,List.set_cons_succ]
  refine sk 14 hS2 ?_;try simp only[Act.put,List.getElem_toArray,List.getElem_cons_succ,List.getElem_cons_zero,List.setIfInBounds_toArray,List.set_cons_zero,List.set_cons_succ]
  refine tk 15 (.bool false) hS2 (fun w' hS=>?_) ?_
  ·go_simp
  try simp only[Act.put,List.getElem_toArray,List.getElem_cons_succ,List.getElem_cons_zero,List.setIfInBounds_toArray,List.set_cons_zero,List.set_cons_succ]
  refine wpAnyH_done (by decide +kernel) ?_ _;have E0:=Lib.hid (H0.out.next HB.out);clear hS0 hS1 hS2 tc
  cases ha:am F [59] (aQ s)
  ·have hg3:=ar (F:=F) hB1.p;have hB3:=hB1.gd hg3;have hq3:=Nat.le_trans hq1 hg3.p
   cases hk:am F [107] (ac F (aQ s))
   ·have AC1:=Lib.hid (fun W1 (h1:Mk g fv F (s) W1)=>bP hF h1 (hB.mono (by omega)));have AC2:=Lib.hid (fun W1 (h1:Mk g fv F (aQ s) W1)=>bB hF h1 hB1.p [59] (by decide) ha);have AC3:=Lib.hid (fun W1 (h1:Mk g fv F (aQ s) W1)=>bF hF h1 hB1.p);have AC4:=Lib.hid (fun W1 (h1:Mk g fv F (ac F (aQ s)) W1)=>bB hF h1 hB3.p [107] (by decide) hk);have AC5:=Lib.hid (fun W1 (h1:Mk g fv F (ac F (aQ s)) W1)=>dK hF hL HL h1 hq3 (hB3.mono (by omega)))
    go_wp2_with (first
      | (go_at_call 133;with_reducible refine(AC1.out _ E0.out.m).mono (Mz.k E0 fun aw1 A1=>?_))
      | (go_at_call 87;with_reducible refine(AC2.out _ A1.out.m).mono (Mz.k A1 fun aw2 A2=>?_))
      | (go_at_call 106;with_reducible refine(AC3.out _ A2.out.m).mono (Mz.k A2 fun aw3 A3=>?_))
      | (go_at_call 87;with_reducible refine(AC4.out _ A3.out.m).mono (Mz.k A3 fun aw4 A4=>?_))
      | (go_at_call 213;with_reducible refine(AC5.out _ A4.out.m).mono (Mz.k A4 fun aw5 A5=>?_))
      | fail)
    first|go_end0|refine bn ?_
    refine⟨rfl,?_⟩;rw[HT.out];unfold cG;simp only[hcond,if_false,Bool.false_eq_true];rw[if_neg (by rw[ha];decide),if_neg (by rw[hk];decide)];exact A5.out
   ·have hlt3:=au hk (by decide);have hn4:=hB3.next hlt3 (by omega);have hq4:q≤(ai (ac F (aQ s))).p:=Nat.le_trans hq3 (Nat.le_succ _);have AC1:=Lib.hid (fun W1 (h1:Mk g fv F (s) W1)=>bP hF h1 (hB.mono (by omega)));have AC2:=Lib.hid (fun W1 (h1:Mk g fv F (aQ s) W1)=>bB hF h1 hB1.p [59] (by decide) ha);have AC3:=Lib.hid (fun W1 (h1:Mk g fv F (aQ s) W1)=>bF hF h1 hB1.p);have AC4:=Lib.hid (fun W1 (h1:Mk g fv F (ac F (aQ s)) W1)=>bW hF h1 hB3.p [107] (by decide) hk)
    go_wp2_with (first
      | (go_at_call 133;with_reducible refine(AC1.out _ E0.out.m).mono (Mz.k E0 fun aw1 A1=>?_))
      | (go_at_call 87;with_reducible refine(AC2.out _ A1.out.m).mono (Mz.k A1 fun aw2 A2=>?_))
      | (go_at_call 106;with_reducible refine(AC3.out _ A2.out.m).mono (Mz.k A2 fun aw3 A3=>?_))
      | (go_at_call 87;with_reducible refine(AC4.out _ A3.out.m).mono (Mz.k A3 fun aw4 A4=>?_))
      | fail)
    go_loopw [] (fun wr=>∃u:Ps,q≤u.p∧Bd F 0 u∧(aZ F.length (fun s=>if dW F s.p=true then (aD 7 s,true) else (s,false))) u=(aZ F.length (fun s=>if dW F s.p=true then (aD 7 s,true) else (s,false))) (ai (ac F (aQ s)))∧Mz g fv F W u wr) (fun wr=>F.length-pOf g wr)
    case atStart=>exact⟨_,hq4,hn4,rfl,A4.out⟩
    case round=>
      obtain⟨u,hqu,hBu,hlu,hz⟩:=hrel;have U0:=Lib.hid hz;have HU:=Lib.hid hlu;have hup:=hz.m.pOf;have HP:=Lib.hid hup;clear hz hlu hup
      cases hb:dW F u.p
      ·have HE:=Lib.hid (HU.out.symm.trans (LC.stepn dF hBu.p (t:=u) (by show (if _ then _ else _)=_;rw[if_neg (by rw[hb];decide)])))
       cases hs9:am F [59] u
       ·have hg7:=ar (F:=F) hBu.p;have hB7:=hBu.gd hg7;have hq7:=Nat.le_trans hqu hg7.p
        cases hy9:am F [110] u
        ·have hg8:=cO (F:=F) hB7.p;have hB8:=hB7.gd hg8;have hq8:=Nat.le_trans hq7 hg8.p;have e9:=Lib.hid (kM hBu.p hy9);have NC1:=Lib.hid (fun W1 (h1:Mk g fv F (u) W1)=>cm hF h1 hBu.p hb);have NC2:=Lib.hid (fun W1 (h1:Mk g fv F (u) W1)=>bB hF h1 hBu.p [59] (by decide) hs9);have NC3:=Lib.hid (fun W1 (h1:Mk g fv F (u) W1)=>fN hF h1 hBu.p hy9);have NC4:=Lib.hid (fun W1 (h1:Mk g fv F (ac F u) W1)=>bP hF h1 (hB7.mono (by omega)));have NC5:=Lib.hid (fun W1 (h1:Mk g fv F (aQ (ac F u)) W1)=>dK hF hL HL h1 hq8 (hB8.mono (by omega)))
         go_wp2_with (first
           | (go_at_call 196;with_reducible refine(NC1.out _ U0.out.m).mono (Mz.k U0 fun nw1 N1=>?_))
           | (go_at_call 87;with_reducible refine(NC2.out _ N1.out.m).mono (Mz.k N1 fun nw2 N2=>?_))
           | (go_at_call 106;with_reducible refine(NC3.out _ N2.out.m).mono (Mz.k N2 fun nw3 N3=>?_))
           | (go_at_call 133;with_reducible refine(NC4.out _ N3.out.m).mono (Mz.k N3 fun nw4 N4=>?_))
           | (go_at_call 213;with_reducible refine(NC5.out _ N4.out.m).mono (Mz.k N4 fun nw5 N5=>?_))
           | fail)
         first|go_end0|refine bn ?_
         refine⟨rfl,?_⟩;rw[HT.out];unfold cG;simp only[hcond,if_false,Bool.false_eq_true];rw[if_neg (by rw[ha];decide),if_pos hk];unfold sH eJ;simp only;rw[HE.out];rw[if_neg (by rw[hs9];decide),if_neg (by rw[hy9];decide)];rw[←show aQ (ac F u)=aQ u by rw[e9.out]];exact N5.out
        ·have NC1:=Lib.hid (fun W1 (h1:Mk g fv F (u) W1)=>cm hF h1 hBu.p hb);have NC2:=Lib.hid (fun W1 (h1:Mk g fv F (u) W1)=>bB hF h1 hBu.p [59] (by decide) hs9);have NC3:=Lib.hid (fun W1 (h1:Mk g fv F (u) W1)=>eW hF h1 hBu.p hy9);have NC4:=Lib.hid (fun W1 (h1:Mk g fv F (ac F u) W1)=>dK hF hL HL h1 hq7 (hB7.mono (by omega)))
         go_wp2_with (first
           | (go_at_call 196;with_reducible refine(NC1.out _ U0.out.m).mono (Mz.k U0 fun nw1 N1=>?_))
           | (go_at_call 87;with_reducible refine(NC2.out _ N1.out.m).mono (Mz.k N1 fun nw2 N2=>?_))
           | (go_at_call 106;with_reducible refine(NC3.out _ N2.out.m).mono (Mz.k N2 fun nw3 N3=>?_))
           | (go_at_call 213;with_reducible refine(NC4.out _ N3.out.m).mono (Mz.k N3 fun nw4 N4=>?_))
           | fail)
         first|go_end0|refine bn ?_
         refine⟨rfl,?_⟩;rw[HT.out];unfold cG;simp only[hcond,if_false,Bool.false_eq_true];rw[if_neg (by rw[ha];decide),if_pos hk];unfold sH eJ;simp only;rw[HE.out];rw[if_neg (by rw[hs9];decide),if_pos hy9];exact N4.out
       ·have hlt5:=au hs9 (by decide);have hn6:=hBu.next hlt5 (by omega);have hg7:=ar (F:=F) hn6.p;have hB7:=hn6.gd hg7;have hq7:q≤(ac F (ai u)).p:=Nat.le_trans hqu (Nat.le_trans (Nat.le_succ _) hg7.p)
        cases hy9:am F [110] (ai u);have NC1:=Lib.hid (fun W1 (h1:Mk g fv F (u) W1)=>cm hF h1 hBu.p hb);have NC2:=Lib.hid (fun W1 (h1:Mk g fv F (u) W1)=>bW hF h1 hBu.p [59] (by decide) hs9);have NC3:=Lib.hid (fun W1 (h1:Mk g fv F (ai u) W1)=>fN hF h1 hn6.p hy9)
        rotate_left
        have NC1:=Lib.hid (fun W1 (h1:Mk g fv F (u) W1)=>cm hF h1 hBu.p hb);have NC2:=Lib.hid (fun W1 (h1:Mk g fv F (u) W1)=>bW hF h1 hBu.p [59] (by decide) hs9);have NC3:=Lib.hid (fun W1 (h1:Mk g fv F (ai u) W1)=>eW hF h1 hn6.p hy9)
        rotate_left
        all_goals (
          have NC4:=Lib.hid (fun W1 (h1:Mk g fv F (ac F (ai u)) W1)=>dK hF hL HL h1 hq7 (hB7.mono (by omega)))
          go_wp2_with (first
            | (go_at_call 196;with_reducible refine(NC1.out _ U0.out.m).mono (Mz.k U0 fun nw1 N1=>?_))
            | (go_at_call 87;with_reducible refine(NC2.out _ N1.out.m).mono (Mz.k N1 fun nw2 N2=>?_))
            | (go_at_call 106;with_reducible refine(NC3.out _ N2.out.m).mono (Mz.k N2 fun nw3 N3=>?_))
            | (go_at_call 213;with_reducible refine(NC4.out _ N3.out.m).mono (Mz.k N3 fun nw4 N4=>?_))
            | fail)
          first|go_end0|refine bn ?_
          refine⟨rfl,?_⟩;rw[HT.out];unfold cG;simp only[hcond,if_false,Bool.false_eq_true];rw[if_neg (by rw[ha];decide),if_pos hk];unfold sH eJ;simp only;rw[HE.out];rw[if_pos hs9];exact N4.out)
      ·have hlu2:=bC hb;have hy:=LC.y (dF u hBu.p) (t:=aD 7 u) (by show (if _ then _ else _)=_;rw[if_pos hb]);have HE:=Lib.hid ((LC.stepy dF hBu.p (t:=aD 7 u) (by show (if _ then _ else _)=_;rw[if_pos hb])).symm.trans HU.out);have YC1:=Lib.hid (fun W1 (h1:Mk g fv F (u) W1)=>dH hF h1 hBu.p hb);have YC2:=Lib.hid (fun W1 (h1:Mk g fv F (u) W1)=>gu hF h1 (hBu.mono (by omega)) hlu2)
       go_wp2_with (first
         | (go_at_call 196;with_reducible refine(YC1.out _ U0.out.m).mono (Mz.k U0 fun yw1 Y1=>?_))
         | (go_at_call 89;with_reducible refine(YC2.out _ Y1.out.m).mono (Mz.k Y1 fun yw2 Y2=>?_))
         | fail)
       refine⟨⟨_,Nat.le_trans hqu (Nat.le_of_lt hy.2),hBu.gd hy.1,HE.out,Y2.out⟩,?_⟩;rw[Y2.out.m.pOf,HP.out]
       have:=hy.2
       have:=hy.1.N
       omega
  ·have hlt2:=au ha (by decide);have hn2:=hB1.next hlt2 (by omega);have hg3:=ar (F:=F) hn2.p;have hB3:=hn2.gd hg3;have hq3:q≤(ac F (ai (aQ s))).p:=Nat.le_trans hq1 (Nat.le_trans (Nat.le_succ _) hg3.p);have AC1:=Lib.hid (fun W1 (h1:Mk g fv F (s) W1)=>bP hF h1 (hB.mono (by omega)));have AC2:=Lib.hid (fun W1 (h1:Mk g fv F (aQ s) W1)=>bW hF h1 hB1.p [59] (by decide) ha);have AC3:=Lib.hid (fun W1 (h1:Mk g fv F (ai (aQ s)) W1)=>bF hF h1 hn2.p);have AC4:=Lib.hid (fun W1 (h1:Mk g fv F (ac F (ai (aQ s))) W1)=>dK hF hL HL h1 hq3 (hB3.mono (by omega)))
   go_wp2_with (first
     | (go_at_call 133;with_reducible refine(AC1.out _ E0.out.m).mono (Mz.k E0 fun aw1 A1=>?_))
     | (go_at_call 87;with_reducible refine(AC2.out _ A1.out.m).mono (Mz.k A1 fun aw2 A2=>?_))
     | (go_at_call 106;with_reducible refine(AC3.out _ A2.out.m).mono (Mz.k A2 fun aw3 A3=>?_))
     | (go_at_call 213;with_reducible refine(AC4.out _ A3.out.m).mono (Mz.k A3 fun aw4 A4=>?_))
     | fail)
   first|go_end0|refine bn ?_
   refine⟨rfl,?_⟩;rw[HT.out];unfold cG;simp only[hcond,if_false,Bool.false_eq_true];rw[if_pos ha];exact A4.out
theorem Cv (hF:FB F) (hL:GL F L) (HL:cJ g fv F L q) (h:Mk g fv F s W) (hq:q≤s.p) (hB:Bd F 0 s) (hw:dW F s.p=true) (hnm:eC (tx F s.p)=false) :
    f9 189 g fv F W (.tuple #[]) (cG F L s):=by
  have hmix:Tryz.prog.follows .mixedOrders=true:=by kernel_rfl
  obtain⟨T,hT⟩:∃T,T=cG F L s:=⟨_,rfl⟩;rw[←hT];have HT:=Lib.hid hT;clear hT;have hn:=hF.n;have hw0:=fun W1 (h1:Mk g fv F s W1)=>gO hF h1 hB.p
  rw[hw] at hw0;have HW:=Lib.hid hw0;obtain⟨y0,y1,y3,y4,_⟩:=h.cells;obtain⟨A,c,hfv⟩:=h.f.formm;have H0:=Lib.hid (Mz.start h);have hlt:=bC hw;obtain⟨x,hx⟩:∃x,F[s.p]? = some x:=⟨_,List.getElem?_eq_getElem hlt⟩;have htx:tx F s.p=x.tx:=by unfold tx;rw[hx]
  have htl:=hF.t x (List.mem_of_getElem? hx);have hf9:=h.f;rw[hfv] at hf9;obtain⟨g1,o1,hA9,z0,z1,z2,z3⟩:=fO hf9 hx rfl;rw[hfv,hA9] at y0;have u1:(s.p:Int)<(F.length:Int):=by omega
  have u2:(0:Int)≤(s.p:Int):=by omega
  have hn9:=fun W=>ny x.tx W (by omega)
  rw[←htx] at hn9;rw[hnm] at hn9;rw[htx] at hn9;have HN:=Lib.hid hn9;clear hn9 htx hx htl z0 z2 z3 hf9 hA9;clear h hw0 y3 y4 hfv;have hcond:(dW F s.p&&eC (tx F s.p))=false:=by rw[hw,hnm];rfl
  have hg1:=cO (F:=F) hB.p;have hB1:=hB.gd hg1;have hq1:=Nat.le_trans hq hg1.p;go_enter Tryz.func189,Tryz.ntmps189;go_wp2_with fail;obtain⟨S0,hS0⟩:∃S0:World→Prop,S0=fun w'=>Below W.heap.size W w':=⟨_,rfl⟩
  refine wp_region_held (S:=S0) hmix ?_;show wpAnyH _ _ _ _ _ _ _ _ W.drew;have hS1:S0 W.drew:=by rw[hS0];exact(Below.refl _ W).drew
  have tc:∀(w':World),S0 w'→∀(a:Addr) (v:Value),W.cell? a=some v→w'.cell? a=some v:=fun w' h a v hc=>wj (by rw[hS0] at h;exact h) hc
  refine tk 0 (.pointer (some ⟨g,0,none⟩)) hS1 (fun w' hS=>?_) ?_
  ·go_simp
  try simp only[Act.put,List.getElem_toArray,List.getElem_cons_succ,List.getElem_cons_zero,List.setIfInBounds_toArray,List.set_cons_zero,List.set_cons_succ]
  refine wpAnyH_all (rs:=[1]) (by decide +kernel) (by simp) (jI rfl (by rfl) (fun K2 hK2=>?_) (jJ (S:=S0)));go_simp;go_at_call 196;refine(HW.out _ (H0.out.m.next (Below.refl _ W).drew).1).mono ?_;rintro e w1 ⟨rfl,hz⟩;have HB:=Lib.hid ((Below.refl _ W).drew.trans hz);clear hz;have hS2:S0 w1:=by rw[hS0];exact HB.out
  refine hK2 _ _ hS2 ?_;clear hK2 K2;try simp only[Act.put,List.getElem_toArray,List.getElem_cons_succ,List.getElem_cons_zero,List.setIfInBounds_toArray,List.set_cons_zero,List.set_cons_succ]
  refine tk 2 (.bool true) hS2 (fun w' hS=>?_) ?_
  ·go_simp
  try simp only[Act.put,List.getElem_toArray,List.getElem_cons_succ,List.getElem_cons_zero,List.setIfInBounds_toArray,List.set_cons_zero,List.set_cons_succ]
  refine tk 3 (.pointer (some ⟨g,0,none⟩)) hS2 (fun w' hS=>?_) ?_
  ·go_simp
  try simp only[Act.put,List.getElem_toArray,List.getElem_cons_succ,List.getElem_cons_zero,List.setIfInBounds_toArray,List.set_cons_zero,List.set_cons_succ]
  refine tk 4 (.pointer (some ⟨g,0,none⟩)) hS2 (fun w' hS=>?_) ?_
  ·go_simp
  try simp only[Act.put,List.getElem_toArray,List.getElem_cons_succ,List.getElem_cons_zero,List.setIfInBounds_toArray,List.set_cons_zero,List.set_cons_succ]
  refine tk 5 (.pointer (some ⟨g,0,none⟩)) hS2 (fun w' hS=>?_) ?_
  ·go_simp
  try simp only[Act.put,List.getElem_toArray,List.getElem_cons_succ,List.getElem_cons_zero,List.setIfInBounds_toArray,List.set_cons_zero,List.set_cons_succ]
  refine tk 6 (.slice (some ⟨g1,o1,none⟩) F.length c) hS2 (fun w' hS=>?_) ?_
  ·have c0:=tc w' hS _ _ y0;go_simp
  try simp only[Act.put,List.getElem_toArray,List.getElem_cons_succ,List.getElem_cons_zero,List.setIfInBounds_toArray,List.set_cons_zero,List.set_cons_succ]
  refine tk 7 (.pointer (some ⟨g,0,none⟩)) hS2 (fun w' hS=>?_) ?_
  ·go_simp
  try simp only[Act.put,List.getElem_toArray,List.getElem_cons_succ,List.getElem_cons_zero,List.setIfInBounds_toArray,List.set_cons_zero,List.set_cons_succ]
  refine tk 8 (.pointer (some ⟨g,0,none⟩)) hS2 (fun w' hS=>?_) ?_
  ·go_simp
  try simp only[Act.put,List.getElem_toArray,List.getElem_cons_succ,List.getElem_cons_zero,List.setIfInBounds_toArray,List.set_cons_zero,List.set_cons_succ]
  refine tk 9 (.pointer (some ⟨g,1,none⟩)) hS2 (fun w' hS=>?_) ?_
  ·go_simp
  try simp only[Act.put,List.getElem_toArray,List.getElem_cons_succ,List.getElem_cons_zero,List.setIfInBounds_toArray,List.set_cons_zero,List.set_cons_succ]
  refine tk 10 (.int .i64 (s.p:Int)) hS2 (fun w' hS=>?_) ?_
  ·have c0:=tc w' hS _ _ y1;go_simp
  try simp only[Act.put,List.getElem_toArray,List.getElem_cons_succ,List.getElem_cons_zero,List.setIfInBounds_toArray,List.set_cons_zero,List.set_cons_succ]
  refine tk 11 (.pointer (some ⟨g1,o1+s.p*4,none⟩)) hS2 (fun w' hS=>?_) ?_
  ·go_simp
  try simp only[Act.put,List.getElem_toArray,List.getElem_cons_succ,List.getElem_cons_zero,List.setIfInBounds_toArray,List.set_cons_zero,List.set_cons_succ]
  refine tk 12 (.pointer (some ⟨g1,o1+s.p*4+1,none⟩)) hS2 (fun w' hS=>?_) ?_
  ·go_simp
  try simp only[Act.put,List.getElem_toArray,List.getElem_cons_succ,List.getElem_cons_zero,List.setIfInBounds_toArray,List.set_cons_zero,List.set_cons_succ]
  refine tk 13 (.string ⟨x.tx.toArray⟩) hS2 (fun w' hS=>?_) ?_
  ·have c0:=tc w' hS _ _ z1;go_simp
  try simp only[Act.put,List.getElem_toArray,List.getElem_cons_succ,List.getElem_cons_zero,List.setIfInBounds_toArray,List.set_cons_zero,List.set_cons_succ]
  refine wpAnyH_all (rs:=[14]) (by decide +kernel) (by simp) (jI rfl (by rfl) (fun K2 hK2=>?_) (jJ (S:=S0)));go_simp;go_at_call 193;refine(HN.out _).mono ?_;rintro e w2 ⟨rfl,rfl⟩;have hS3:S0 w2:=by rw[hS0];exact HB.out
  refine hK2 _ _ hS3 ?_;clear hK2 K2;try simp only[Act.put,List.getElem_toArray,List.getElem_cons_succ,List.getElem_cons_zero,List.setIfInBounds_toArray,List.set_cons_zero,List.set_cons_succ]
  refine tk 15 (.bool false) hS3 (fun w' hS=>?_) ?_
  ·go_simp
  try simp only[Act.put,List.getElem_toArray,List.getElem_cons_succ,List.getElem_cons_zero,List.setIfInBounds_toArray,List.set_cons_zero,List.set_cons_succ]
  refine wpAnyH_done (by decide +kernel) ?_ _;have E0:=Lib.hid (H0.out.next HB.out);clear hS0 hS1 hS2 tc hS3
  cases ha:am F [59] (aQ s)
  ·have hg3:=ar (F:=F) hB1.p;have hB3:=hB1.gd hg3;have hq3:=Nat.le_trans hq1 hg3.p
   cases hk:am F [107] (ac F (aQ s))
   ·have AC1:=Lib.hid (fun W1 (h1:Mk g fv F (s) W1)=>bP hF h1 (hB.mono (by omega)));have AC2:=Lib.hid (fun W1 (h1:Mk g fv F (aQ s) W1)=>bB hF h1 hB1.p [59] (by decide) ha);have AC3:=Lib.hid (fun W1 (h1:Mk g fv F (aQ s) W1)=>bF hF h1 hB1.p);have AC4:=Lib.hid (fun W1 (h1:Mk g fv F (ac F (aQ s)) W1)=>bB hF h1 hB3.p [107] (by decide) hk);have AC5:=Lib.hid (fun W1 (h1:Mk g fv F (ac F (aQ s)) W1)=>dK hF hL HL h1 hq3 (hB3.mono (by omega)))
    go_wp2_with (first
      | (go_at_call 133;with_reducible refine(AC1.out _ E0.out.m).mono (Mz.k E0 fun aw1 A1=>?_))
      | (go_at_call 87;with_reducible refine(AC2.out _ A1.out.m).mono (Mz.k A1 fun aw2 A2=>?_))
      | (go_at_call 106;with_reducible refine(AC3.out _ A2.out.m).mono (Mz.k A2 fun aw3 A3=>?_))
      | (go_at_call 87;with_reducible refine(AC4.out _ A3.out.m).mono (Mz.k A3 fun aw4 A4=>?_))
      | (go_at_call 213;with_reducible refine(AC5.out _ A4.out.m).mono (Mz.k A4 fun aw5 A5=>?_))
      | fail)
    first|go_end0|refine bn ?_
    refine⟨rfl,?_⟩;rw[HT.out];unfold cG;simp only[hcond,if_false,Bool.false_eq_true];rw[if_neg (by rw[ha];decide),if_neg (by rw[hk];decide)];exact A5.out
   ·have hlt3:=au hk (by decide);have hn4:=hB3.next hlt3 (by omega);have hq4:q≤(ai (ac F (aQ s))).p:=Nat.le_trans hq3 (Nat.le_succ _);have AC1:=Lib.hid (fun W1 (h1:Mk g fv F (s) W1)=>bP hF h1 (hB.mono (by omega)));have AC2:=Lib.hid (fun W1 (h1:Mk g fv F (aQ s) W1)=>bB hF h1 hB1.p [59] (by decide) ha);have AC3:=Lib.hid (fun W1 (h1:Mk g fv F (aQ s) W1)=>bF hF h1 hB1.p);have AC4:=Lib.hid (fun W1 (h1:Mk g fv F (ac F (aQ s)) W1)=>bW hF h1 hB3.p [107] (by decide) hk)
    go_wp2_with (first
      | (go_at_call 133;with_reducible refine(AC1.out _ E0.out.m).mono (Mz.k E0 fun aw1 A1=>?_))
      | (go_at_call 87;with_reducible refine(AC2.out _ A1.out.m).mono (Mz.k A1 fun aw2 A2=>?_))
      | (go_at_call 106;with_reducible refine(AC3.out _ A2.out.m).mono (Mz.k A2 fun aw3 A3=>?_))
      | (go_at_call 87;with_reducible refine(AC4.out _ A3.out.m).mono (Mz.k A3 fun aw4 A4=>?_))
      | fail)
    go_loopw [] (fun wr=>∃u:Ps,q≤u.p∧Bd F 0 u∧(aZ F.length (fun s=>if dW F s.p=true then (aD 7 s,true) else (s,false))) u=(aZ F.length (fun s=>if dW F s.p=true then (aD 7 s,true) else (s,false))) (ai (ac F (aQ s)))∧Mz g fv F W u wr) (fun wr=>F.length-pOf g wr)
    case atStart=>exact⟨_,hq4,hn4,rfl,A4.out⟩
    case round=>
      obtain⟨u,hqu,hBu,hlu,hz⟩:=hrel;have U0:=Lib.hid hz;have HU:=Lib.hid hlu;have hup:=hz.m.pOf;have HP:=Lib.hid hup;clear hz hlu hup
      cases hb:dW F u.p
      ·have HE:=Lib.hid (HU.out.symm.trans (LC.stepn dF hBu.p (t:=u) (by show (if _ then _ else _)=_;rw[if_neg (by rw[hb];decide)])))
       cases hs9:am F [59] u
       ·have hg7:=ar (F:=F) hBu.p;have hB7:=hBu.gd hg7;have hq7:=Nat.le_trans hqu hg7.p
        cases hy9:am F [110] u
        ·have hg8:=cO (F:=F) hB7.p;have hB8:=hB7.gd hg8;have hq8:=Nat.le_trans hq7 hg8.p;have e9:=Lib.hid (kM hBu.p hy9);have NC1:=Lib.hid (fun W1 (h1:Mk g fv F (u) W1)=>cm hF h1 hBu.p hb);have NC2:=Lib.hid (fun W1 (h1:Mk g fv F (u) W1)=>bB hF h1 hBu.p [59] (by decide) hs9);have NC3:=Lib.hid (fun W1 (h1:Mk g fv F (u) W1)=>fN hF h1 hBu.p hy9);have NC4:=Lib.hid (fun W1 (h1:Mk g fv F (ac F u) W1)=>bP hF h1 (hB7.mono (by omega)));have NC5:=Lib.hid (fun W1 (h1:Mk g fv F (aQ (ac F u)) W1)=>dK hF hL HL h1 hq8 (hB8.mono (by omega)))
         go_wp2_with (first
           | (go_at_call 196;with_reducible refine(NC1.out _ U0.out.m).mono (Mz.k U0 fun nw1 N1=>?_))
           | (go_at_call 87;with_reducible refine(NC2.out _ N1.out.m).mono (Mz.k N1 fun nw2 N2=>?_))
           | (go_at_call 106;with_reducible refine(NC3.out _ N2.out.m).mono (Mz.k N2 fun nw3 N3=>?_))
           | (go_at_call 133;with_reducible refine(NC4.out _ N3.out.m).mono (Mz.k N3 fun nw4 N4=>?_))
           | (go_at_call 213;with_reducible refine(NC5.out _ N4.out.m).mono (Mz.k N4 fun nw5 N5=>?_))
           | fail)
         first|go_end0|refine bn ?_
         refine⟨rfl,?_⟩;rw[HT.out];unfold cG;simp only[hcond,if_false,Bool.false_eq_true];rw[if_neg (by rw[ha];decide),if_pos hk];unfold sH eJ;simp only;rw[HE.out];rw[if_neg (by rw[hs9];decide),if_neg (by rw[hy9];decide)];rw[←show aQ (ac F u)=aQ u by rw[e9.out]];exact N5.out
        ·have NC1:=Lib.hid (fun W1 (h1:Mk g fv F (u) W1)=>cm hF h1 hBu.p hb);have NC2:=Lib.hid (fun W1 (h1:Mk g fv F (u) W1)=>bB hF h1 hBu.p [59] (by decide) hs9);have NC3:=Lib.hid (fun W1 (h1:Mk g fv F (u) W1)=>eW hF h1 hBu.p hy9);have NC4:=Lib.hid (fun W1 (h1:Mk g fv F (ac F u) W1)=>dK hF hL HL h1 hq7 (hB7.mono (by omega)))
         go_wp2_with (first
           | (go_at_call 196;with_reducible refine(NC1.out _ U0.out.m).mono (Mz.k U0 fun nw1 N1=>?_))
           | (go_at_call 87;with_reducible refine(NC2.out _ N1.out.m).mono (Mz.k N1 fun nw2 N2=>?_))
           | (go_at_call 106;with_reducible refine(NC3.out _ N2.out.m).mono (Mz.k N2 fun nw3 N3=>?_))
           | (go_at_call 213;with_reducible refine(NC4.out _ N3.out.m).mono (Mz.k N3 fun nw4 N4=>?_))
           | fail)
         first|go_end0|refine bn ?_
         refine⟨rfl,?_⟩;rw[HT.out];unfold cG;simp only[hcond,if_false,Bool.false_eq_true];rw[if_neg (by rw[ha];decide),if_pos hk];unfold sH eJ;simp only;rw[HE.out];rw[if_neg (by rw[hs9];decide),if_pos hy9];exact N4.out
       ·have hlt5:=au hs9 (by decide);have hn6:=hBu.next hlt5 (by omega);have hg7:=ar (F:=F) hn6.p;have hB7:=hn6.gd hg7;have hq7:q≤(ac F (ai u)).p:=Nat.le_trans hqu (Nat.le_trans (Nat.le_succ _) hg7.p)
        cases hy9:am F [110] (ai u);have NC1:=Lib.hid (fun W1 (h1:Mk g fv F (u) W1)=>cm hF h1 hBu.p hb);have NC2:=Lib.hid (fun W1 (h1:Mk g fv F (u) W1)=>bW hF h1 hBu.p [59] (by decide) hs9);have NC3:=Lib.hid (fun W1 (h1:Mk g fv F (ai u) W1)=>fN hF h1 hn6.p hy9)
        rotate_left
        have NC1:=Lib.hid (fun W1 (h1:Mk g fv F (u) W1)=>cm hF h1 hBu.p hb);have NC2:=Lib.hid (fun W1 (h1:Mk g fv F (u) W1)=>bW hF h1 hBu.p [59] (by decide) hs9);have NC3:=Lib.hid (fun W1 (h1:Mk g fv F (ai u) W1)=>eW hF h1 hn6.p hy9)
        rotate_left
        all_goals (
          have NC4:=Lib.hid (fun W1 (h1:Mk g fv F (ac F (ai u)) W1)=>dK hF hL HL h1 hq7 (hB7.mono (by omega)))
          go_wp2_with (first
            | (go_at_call 196;with_reducible refine(NC1.out _ U0.out.m).mono (Mz.k U0 fun nw1 N1=>?_))
            | (go_at_call 87;with_reducible refine(NC2.out _ N1.out.m).mono (Mz.k N1 fun nw2 N2=>?_))
            | (go_at_call 106;with_reducible refine(NC3.out _ N2.out.m).mono (Mz.k N2 fun nw3 N3=>?_))
            | (go_at_call 213;with_reducible refine(NC4.out _ N3.out.m).mono (Mz.k N3 fun nw4 N4=>?_))
            | fail)
          first|go_end0|refine bn ?_
          refine⟨rfl,?_⟩;rw[HT.out];unfold cG;simp only[hcond,if_false,Bool.false_eq_true];rw[if_neg (by rw[ha];decide),if_pos hk];unfold sH eJ;simp only;rw[HE.out];rw[if_pos hs9];exact N4.out)
      ·have hlu2:=bC hb;have hy:=LC.y (dF u hBu.p) (t:=aD 7 u) (by show (if _ then _ else _)=_;rw[if_pos hb]);have HE:=Lib.hid ((LC.stepy dF hBu.p (t:=aD 7 u) (by show (if _ then _ else _)=_;rw[if_pos hb])).symm.trans HU.out);have YC1:=Lib.hid (fun W1 (h1:Mk g fv F (u) W1)=>dH hF h1 hBu.p hb);have YC2:=Lib.hid (fun W1 (h1:Mk g fv F (u) W1)=>gu hF h1 (hBu.mono (by omega)) hlu2)
       go_wp2_with (first
         | (go_at_call 196;with_reducible refine(YC1.out _ U0.out.m).mono (Mz.k U0 fun yw1 Y1=>?_))
         | (go_at_call 89;with_reducible refine(YC2.out _ Y1.out.m).mono (Mz.k Y1 fun yw2 Y2=>?_))
         | fail)
       refine⟨⟨_,Nat.le_trans hqu (Nat.le_of_lt hy.2),hBu.gd hy.1,HE.out,Y2.out⟩,?_⟩;rw[Y2.out.m.pOf,HP.out]
       have:=hy.2
       have:=hy.1.N
       omega
  ·have hlt2:=au ha (by decide);have hn2:=hB1.next hlt2 (by omega);have hg3:=ar (F:=F) hn2.p;have hB3:=hn2.gd hg3;have hq3:q≤(ac F (ai (aQ s))).p:=Nat.le_trans hq1 (Nat.le_trans (Nat.le_succ _) hg3.p);have AC1:=Lib.hid (fun W1 (h1:Mk g fv F (s) W1)=>bP hF h1 (hB.mono (by omega)));have AC2:=Lib.hid (fun W1 (h1:Mk g fv F (aQ s) W1)=>bW hF h1 hB1.p [59] (by decide) ha);have AC3:=Lib.hid (fun W1 (h1:Mk g fv F (ai (aQ s)) W1)=>bF hF h1 hn2.p);have AC4:=Lib.hid (fun W1 (h1:Mk g fv F (ac F (ai (aQ s))) W1)=>dK hF hL HL h1 hq3 (hB3.mono (by omega)))
   go_wp2_with (first
     | (go_at_call 133;with_reducible refine(AC1.out _ E0.out.m).mono (Mz.k E0 fun aw1 A1=>?_))
     | (go_at_call 87;with_reducible refine(AC2.out _ A1.out.m).mono (Mz.k A1 fun aw2 A2=>?_))
     | (go_at_call 106;with_reducible refine(AC3.out _ A2.out.m).mono (Mz.k A2 fun aw3 A3=>?_))
     | (go_at_call 213;with_reducible refine(AC4.out _ A3.out.m).mono (Mz.k A3 fun aw4 A4=>?_))
     | fail)
   first|go_end0|refine bn ?_
   refine⟨rfl,?_⟩;rw[HT.out];unfold cG;simp only[hcond,if_false,Bool.false_eq_true];rw[if_pos ha];exact A4.out
theorem Cu (hF:FB F) (hL:GL F L) (HL:cJ g fv F L q) (h:Mk g fv F s W) (hq:q≤s.p) (hB:Bd F 0 s) (hw:dW F s.p=true) (hnm:eC (tx F s.p)=true) :
    f9 189 g fv F W (.tuple #[]) (cG F L s):=by
  have hmix:Tryz.prog.follows .mixedOrders=true:=by kernel_rfl
  obtain⟨T,hT⟩:∃T,T=cG F L s:=⟨_,rfl⟩;rw[←hT];have HT:=Lib.hid hT;clear hT;have hn:=hF.n;have hw0:=fun W1 (h1:Mk g fv F s W1)=>gO hF h1 hB.p
  rw[hw] at hw0;have HW:=Lib.hid hw0;obtain⟨y0,y1,y3,y4,_⟩:=h.cells;obtain⟨A,c,hfv⟩:=h.f.formm;have H0:=Lib.hid (Mz.start h);have hlt:=bC hw;obtain⟨x,hx⟩:∃x,F[s.p]? = some x:=⟨_,List.getElem?_eq_getElem hlt⟩;have htx:tx F s.p=x.tx:=by unfold tx;rw[hx]
  have htl:=hF.t x (List.mem_of_getElem? hx);have hf9:=h.f;rw[hfv] at hf9;obtain⟨g1,o1,hA9,z0,z1,z2,z3⟩:=fO hf9 hx rfl;rw[hfv,hA9] at y0;have u1:(s.p:Int)<(F.length:Int):=by omega
  have u2:(0:Int)≤(s.p:Int):=by omega
  have hn9:=fun W=>ny x.tx W (by omega)
  rw[←htx] at hn9;rw[hnm] at hn9;rw[htx] at hn9;have HN:=Lib.hid hn9;clear hn9 htx hx htl z0 z2 z3 hf9 hA9;clear h hw0 y3 y4 hfv;have hcond:(dW F s.p&&eC (tx F s.p))=true:=by rw[hw,hnm];rfl
  have hg1:=(bY (F:=F) (k:=7) hlt).1;have hB1:=hB.gd hg1;have hq1:=Nat.le_trans hq hg1.p;go_enter Tryz.func189,Tryz.ntmps189;go_wp2_with fail;obtain⟨S0,hS0⟩:∃S0:World→Prop,S0=fun w'=>Below W.heap.size W w':=⟨_,rfl⟩
  refine wp_region_held (S:=S0) hmix ?_;show wpAnyH _ _ _ _ _ _ _ _ W.drew;have hS1:S0 W.drew:=by rw[hS0];exact(Below.refl _ W).drew
  have tc:∀(w':World),S0 w'→∀(a:Addr) (v:Value),W.cell? a=some v→w'.cell? a=some v:=fun w' h a v hc=>wj (by rw[hS0] at h;exact h) hc
  refine tk 0 (.pointer (some ⟨g,0,none⟩)) hS1 (fun w' hS=>?_) ?_
  ·go_simp
  try simp only[Act.put,List.getElem_toArray,List.getElem_cons_succ,List.getElem_cons_zero,List.setIfInBounds_toArray,List.set_cons_zero,List.set_cons_succ]
  refine wpAnyH_all (rs:=[1]) (by decide +kernel) (by simp) (jI rfl (by rfl) (fun K2 hK2=>?_) (jJ (S:=S0)));go_simp;go_at_call 196;refine(HW.out _ (H0.out.m.next (Below.refl _ W).drew).1).mono ?_;rintro e w1 ⟨rfl,hz⟩;have HB:=Lib.hid ((Below.refl _ W).drew.trans hz);clear hz;have hS2:S0 w1:=by rw[hS0];exact HB.out
  refine hK2 _ _ hS2 ?_;clear hK2 K2;try simp only[Act.put,List.getElem_toArray,List.getElem_cons_succ,List.getElem_cons_zero,List.setIfInBounds_toArray,List.set_cons_zero,List.set_cons_succ]
  refine tk 2 (.bool true) hS2 (fun w' hS=>?_) ?_
  ·go_simp
  try simp only[Act.put,List.getElem_toArray,List.getElem_cons_succ,List.getElem_cons_zero,List.setIfInBounds_toArray,List.set_cons_zero,List.set_cons_succ]
  refine tk 3 (.pointer (some ⟨g,0,none⟩)) hS2 (fun w' hS=>?_) ?_
  ·go_simp
  try simp only[Act.put,List.getElem_toArray,List.getElem_cons_succ,List.getElem_cons_zero,List.setIfInBounds_toArray,List.set_cons_zero,List.set_cons_succ]
  refine tk 4 (.pointer (some ⟨g,0,none⟩)) hS2 (fun w' hS=>?_) ?_
  ·go_simp
  try simp only[Act.put,List.getElem_toArray,List.getElem_cons_succ,List.getElem_cons_zero,List.setIfInBounds_toArray,List.set_cons_zero,List.set_cons_succ]
  refine tk 5 (.pointer (some ⟨g,0,none⟩)) hS2 (fun w' hS=>?_) ?_
  ·go_simp
  try simp only[Act.put,List.getElem_toArray,List.getElem_cons_succ,List.getElem_cons_zero,List.setIfInBounds_toArray,List.set_cons_zero,List.set_cons_succ]
  refine tk 6 (.slice (some ⟨g1,o1,none⟩) F.length c) hS2 (fun w' hS=>?_) ?_
  ·have c0:=tc w' hS _ _ y0;go_simp
  try simp only[Act.put,List.getElem_toArray,List.getElem_cons_succ,List.getElem_cons_zero,List.setIfInBounds_toArray,List.set_cons_zero,List.set_cons_succ]
  refine tk 7 (.pointer (some ⟨g,0,none⟩)) hS2 (fun w' hS=>?_) ?_
  ·go_simp
  try simp only[Act.put,List.getElem_toArray,List.getElem_cons_succ,List.getElem_cons_zero,List.setIfInBounds_toArray,List.set_cons_zero,List.set_cons_succ]
  refine tk 8 (.pointer (some ⟨g,0,none⟩)) hS2 (fun w' hS=>?_) ?_
  ·go_simp
  try simp only[Act.put,List.getElem_toArray,List.getElem_cons_succ,List.getElem_cons_zero,List.setIfInBounds_toArray,List.set_cons_zero,List.set_cons_succ]
  refine tk 9 (.pointer (some ⟨g,1,none⟩)) hS2 (fun w' hS=>?_) ?_
  ·go_simp
  try simp only[Act.put,List.getElem_toArray,List.getElem_cons_succ,List.getElem_cons_zero,List.setIfInBounds_toArray,List.set_cons_zero,List.set_cons_succ]
  refine tk 10 (.int .i64 (s.p:Int)) hS2 (fun w' hS=>?_) ?_
  ·have c0:=tc w' hS _ _ y1;go_simp
  try simp only[Act.put,List.getElem_toArray,List.getElem_cons_succ,List.getElem_cons_zero,List.setIfInBounds_toArray,List.set_cons_zero,List.set_cons_succ]
  refine tk 11 (.pointer (some ⟨g1,o1+s.p*4,none⟩)) hS2 (fun w' hS=>?_) ?_
  ·go_simp
  try simp only[Act.put,List.getElem_toArray,List.getElem_cons_succ,List.getElem_cons_zero,List.setIfInBounds_toArray,List.set_cons_zero,List.set_cons_succ]
  refine tk 12 (.pointer (some ⟨g1,o1+s.p*4+1,none⟩)) hS2 (fun w' hS=>?_) ?_
  ·go_simp
  try simp only[Act.put,List.getElem_toArray,List.getElem_cons_succ,List.getElem_cons_zero,List.setIfInBounds_toArray,List.set_cons_zero,List.set_cons_succ]
  refine tk 13 (.string ⟨x.tx.toArray⟩) hS2 (fun w' hS=>?_) ?_
  ·have c0:=tc w' hS _ _ z1;go_simp
  try simp only[Act.put,List.getElem_toArray,List.getElem_cons_succ,List.getElem_cons_zero,List.setIfInBounds_toArray,List.set_cons_zero,List.set_cons_succ]
  refine wpAnyH_all (rs:=[14]) (by decide +kernel) (by simp) (jI rfl (by rfl) (fun K2 hK2=>?_) (jJ (S:=S0)));go_simp;go_at_call 193;refine(HN.out _).mono ?_;rintro e w2 ⟨rfl,rfl⟩;have hS3:S0 w2:=by rw[hS0];exact HB.out
  refine hK2 _ _ hS3 ?_;clear hK2 K2;try simp only[Act.put,List.getElem_toArray,List.getElem_cons_succ,List.getElem_cons_zero,List.setIfInBounds_toArray,List.set_cons_zero,List.set_cons_succ]
  refine tk 15 (.bool true) hS3 (fun w' hS=>?_) ?_
  ·go_simp
  try simp only[Act.put,List.getElem_toArray,List.getElem_cons_succ,List.getElem_cons_zero,List.setIfInBounds_toArray,List.set_cons_zero,List.set_cons_succ]
  refine wpAnyH_done (by decide +kernel) ?_ _;have E0:=Lib.hid (H0.out.next HB.out);clear hS0 hS1 hS2 tc hS3
  cases ha:am F [59] (aD 7 s)
  ·have hg3:=ar (F:=F) hB1.p;have hB3:=hB1.gd hg3;have hq3:=Nat.le_trans hq1 hg3.p
   cases hk:am F [107] (ac F (aD 7 s))
   ·have AC1:=Lib.hid (fun W1 (h1:Mk g fv F (s) W1)=>gu hF h1 (hB.mono (by omega)) hlt);have AC2:=Lib.hid (fun W1 (h1:Mk g fv F (aD 7 s) W1)=>bB hF h1 hB1.p [59] (by decide) ha);have AC3:=Lib.hid (fun W1 (h1:Mk g fv F (aD 7 s) W1)=>bF hF h1 hB1.p);have AC4:=Lib.hid (fun W1 (h1:Mk g fv F (ac F (aD 7 s)) W1)=>bB hF h1 hB3.p [107] (by decide) hk);have AC5:=Lib.hid (fun W1 (h1:Mk g fv F (ac F (aD 7 s)) W1)=>dK hF hL HL h1 hq3 (hB3.mono (by omega)))
    go_wp2_with (first
      | (go_at_call 89;with_reducible refine(AC1.out _ E0.out.m).mono (Mz.k E0 fun aw1 A1=>?_))
      | (go_at_call 87;with_reducible refine(AC2.out _ A1.out.m).mono (Mz.k A1 fun aw2 A2=>?_))
      | (go_at_call 106;with_reducible refine(AC3.out _ A2.out.m).mono (Mz.k A2 fun aw3 A3=>?_))
      | (go_at_call 87;with_reducible refine(AC4.out _ A3.out.m).mono (Mz.k A3 fun aw4 A4=>?_))
      | (go_at_call 213;with_reducible refine(AC5.out _ A4.out.m).mono (Mz.k A4 fun aw5 A5=>?_))
      | fail)
    first|go_end0|refine bn ?_
    refine⟨rfl,?_⟩;rw[HT.out];unfold cG;simp only[hcond,if_true];rw[if_neg (by rw[ha];decide),if_neg (by rw[hk];decide)];exact A5.out
   ·have hlt3:=au hk (by decide);have hn4:=hB3.next hlt3 (by omega);have hq4:q≤(ai (ac F (aD 7 s))).p:=Nat.le_trans hq3 (Nat.le_succ _);have AC1:=Lib.hid (fun W1 (h1:Mk g fv F (s) W1)=>gu hF h1 (hB.mono (by omega)) hlt);have AC2:=Lib.hid (fun W1 (h1:Mk g fv F (aD 7 s) W1)=>bB hF h1 hB1.p [59] (by decide) ha);have AC3:=Lib.hid (fun W1 (h1:Mk g fv F (aD 7 s) W1)=>bF hF h1 hB1.p);have AC4:=Lib.hid (fun W1 (h1:Mk g fv F (ac F (aD 7 s)) W1)=>bW hF h1 hB3.p [107] (by decide) hk)
    go_wp2_with (first
      | (go_at_call 89;with_reducible refine(AC1.out _ E0.out.m).mono (Mz.k E0 fun aw1 A1=>?_))
      | (go_at_call 87;with_reducible refine(AC2.out _ A1.out.m).mono (Mz.k A1 fun aw2 A2=>?_))
      | (go_at_call 106;with_reducible refine(AC3.out _ A2.out.m).mono (Mz.k A2 fun aw3 A3=>?_))
      | (go_at_call 87;with_reducible refine(AC4.out _ A3.out.m).mono (Mz.k A3 fun aw4 A4=>?_))
      | fail)
    go_loopw [] (fun wr=>∃u:Ps,q≤u.p∧Bd F 0 u∧(aZ F.length (fun s=>if dW F s.p=true then (aD 7 s,true) else (s,false))) u=(aZ F.length (fun s=>if dW F s.p=true then (aD 7 s,true) else (s,false))) (ai (ac F (aD 7 s)))∧Mz g fv F W u wr) (fun wr=>F.length-pOf g wr)
    case atStart=>exact⟨_,hq4,hn4,rfl,A4.out⟩
    case round=>
      obtain⟨u,hqu,hBu,hlu,hz⟩:=hrel;have U0:=Lib.hid hz;have HU:=Lib.hid hlu;have hup:=hz.m.pOf;have HP:=Lib.hid hup;clear hz hlu hup
      cases hb:dW F u.p
      ·have HE:=Lib.hid (HU.out.symm.trans (LC.stepn dF hBu.p (t:=u) (by show (if _ then _ else _)=_;rw[if_neg (by rw[hb];decide)])))
       cases hs9:am F [59] u
       ·have hg7:=ar (F:=F) hBu.p;have hB7:=hBu.gd hg7;have hq7:=Nat.le_trans hqu hg7.p
        cases hy9:am F [110] u
        ·have hg8:=cO (F:=F) hB7.p;have hB8:=hB7.gd hg8;have hq8:=Nat.le_trans hq7 hg8.p;have e9:=Lib.hid (kM hBu.p hy9);have NC1:=Lib.hid (fun W1 (h1:Mk g fv F (u) W1)=>cm hF h1 hBu.p hb);have NC2:=Lib.hid (fun W1 (h1:Mk g fv F (u) W1)=>bB hF h1 hBu.p [59] (by decide) hs9);have NC3:=Lib.hid (fun W1 (h1:Mk g fv F (u) W1)=>fN hF h1 hBu.p hy9);have NC4:=Lib.hid (fun W1 (h1:Mk g fv F (ac F u) W1)=>bP hF h1 (hB7.mono (by omega)));have NC5:=Lib.hid (fun W1 (h1:Mk g fv F (aQ (ac F u)) W1)=>dK hF hL HL h1 hq8 (hB8.mono (by omega)))
         go_wp2_with (first
           | (go_at_call 196;with_reducible refine(NC1.out _ U0.out.m).mono (Mz.k U0 fun nw1 N1=>?_))
           | (go_at_call 87;with_reducible refine(NC2.out _ N1.out.m).mono (Mz.k N1 fun nw2 N2=>?_))
           | (go_at_call 106;with_reducible refine(NC3.out _ N2.out.m).mono (Mz.k N2 fun nw3 N3=>?_))
           | (go_at_call 133;with_reducible refine(NC4.out _ N3.out.m).mono (Mz.k N3 fun nw4 N4=>?_))
           | (go_at_call 213;with_reducible refine(NC5.out _ N4.out.m).mono (Mz.k N4 fun nw5 N5=>?_))
           | fail)
         first|go_end0|refine bn ?_
         refine⟨rfl,?_⟩;rw[HT.out];unfold cG;simp only[hcond,if_true];rw[if_neg (by rw[ha];decide),if_pos hk];unfold sH eJ;simp only;rw[HE.out];rw[if_neg (by rw[hs9];decide),if_neg (by rw[hy9];decide)];rw[←show aQ (ac F u)=aQ u by rw[e9.out]];exact N5.out
        ·have NC1:=Lib.hid (fun W1 (h1:Mk g fv F (u) W1)=>cm hF h1 hBu.p hb);have NC2:=Lib.hid (fun W1 (h1:Mk g fv F (u) W1)=>bB hF h1 hBu.p [59] (by decide) hs9);have NC3:=Lib.hid (fun W1 (h1:Mk g fv F (u) W1)=>eW hF h1 hBu.p hy9);have NC4:=Lib.hid (fun W1 (h1:Mk g fv F (ac F u) W1)=>dK hF hL HL h1 hq7 (hB7.mono (by omega)))
         go_wp2_with (first
           | (go_at_call 196;with_reducible refine(NC1.out _ U0.out.m).mono (Mz.k U0 fun nw1 N1=>?_))
           | (go_at_call 87;with_reducible refine(NC2.out _ N1.out.m).mono (Mz.k N1 fun nw2 N2=>?_))
           | (go_at_call 106;with_reducible refine(NC3.out _ N2.out.m).mono (Mz.k N2 fun nw3 N3=>?_))
           | (go_at_call 213;with_reducible refine(NC4.out _ N3.out.m).mono (Mz.k N3 fun nw4 N4=>?_))
           | fail)
         first|go_end0|refine bn ?_
         refine⟨rfl,?_⟩;rw[HT.out];unfold cG;simp only[hcond,if_true];rw[if_neg (by rw[ha];decide),if_pos hk];unfold sH eJ;simp only;rw[HE.out];rw[if_neg (by rw[hs9];decide),if_pos hy9];exact N4.out
       ·have hlt5:=au hs9 (by decide);have hn6:=hBu.next hlt5 (by omega);have hg7:=ar (F:=F) hn6.p;have hB7:=hn6.gd hg7;have hq7:q≤(ac F (ai u)).p:=Nat.le_trans hqu (Nat.le_trans (Nat.le_succ _) hg7.p)
        cases hy9:am F [110] (ai u);have NC1:=Lib.hid (fun W1 (h1:Mk g fv F (u) W1)=>cm hF h1 hBu.p hb);have NC2:=Lib.hid (fun W1 (h1:Mk g fv F (u) W1)=>bW hF h1 hBu.p [59] (by decide) hs9);have NC3:=Lib.hid (fun W1 (h1:Mk g fv F (ai u) W1)=>fN hF h1 hn6.p hy9)
        rotate_left
        have NC1:=Lib.hid (fun W1 (h1:Mk g fv F (u) W1)=>cm hF h1 hBu.p hb);have NC2:=Lib.hid (fun W1 (h1:Mk g fv F (u) W1)=>bW hF h1 hBu.p [59] (by decide) hs9);have NC3:=Lib.hid (fun W1 (h1:Mk g fv F (ai u) W1)=>eW hF h1 hn6.p hy9)
        rotate_left
        all_goals (
          have NC4:=Lib.hid (fun W1 (h1:Mk g fv F (ac F (ai u)) W1)=>dK hF hL HL h1 hq7 (hB7.mono (by omega)))
          go_wp2_with (first
            | (go_at_call 196;with_reducible refine(NC1.out _ U0.out.m).mono (Mz.k U0 fun nw1 N1=>?_))
            | (go_at_call 87;with_reducible refine(NC2.out _ N1.out.m).mono (Mz.k N1 fun nw2 N2=>?_))
            | (go_at_call 106;with_reducible refine(NC3.out _ N2.out.m).mono (Mz.k N2 fun nw3 N3=>?_))
            | (go_at_call 213;with_reducible refine(NC4.out _ N3.out.m).mono (Mz.k N3 fun nw4 N4=>?_))
            | fail)
          first|go_end0|refine bn ?_
          refine⟨rfl,?_⟩;rw[HT.out];unfold cG;simp only[hcond,if_true];rw[if_neg (by rw[ha];decide),if_pos hk];unfold sH eJ;simp only;rw[HE.out];rw[if_pos hs9];exact N4.out)
      ·have hlu2:=bC hb;have hy:=LC.y (dF u hBu.p) (t:=aD 7 u) (by show (if _ then _ else _)=_;rw[if_pos hb]);have HE:=Lib.hid ((LC.stepy dF hBu.p (t:=aD 7 u) (by show (if _ then _ else _)=_;rw[if_pos hb])).symm.trans HU.out);have YC1:=Lib.hid (fun W1 (h1:Mk g fv F (u) W1)=>dH hF h1 hBu.p hb);have YC2:=Lib.hid (fun W1 (h1:Mk g fv F (u) W1)=>gu hF h1 (hBu.mono (by omega)) hlu2)
       go_wp2_with (first
         | (go_at_call 196;with_reducible refine(YC1.out _ U0.out.m).mono (Mz.k U0 fun yw1 Y1=>?_))
         | (go_at_call 89;with_reducible refine(YC2.out _ Y1.out.m).mono (Mz.k Y1 fun yw2 Y2=>?_))
         | fail)
       refine⟨⟨_,Nat.le_trans hqu (Nat.le_of_lt hy.2),hBu.gd hy.1,HE.out,Y2.out⟩,?_⟩;rw[Y2.out.m.pOf,HP.out]
       have:=hy.2
       have:=hy.1.N
       omega
  ·have hlt2:=au ha (by decide);have hn2:=hB1.next hlt2 (by omega);have hg3:=ar (F:=F) hn2.p;have hB3:=hn2.gd hg3;have hq3:q≤(ac F (ai (aD 7 s))).p:=Nat.le_trans hq1 (Nat.le_trans (Nat.le_succ _) hg3.p);have AC1:=Lib.hid (fun W1 (h1:Mk g fv F (s) W1)=>gu hF h1 (hB.mono (by omega)) hlt);have AC2:=Lib.hid (fun W1 (h1:Mk g fv F (aD 7 s) W1)=>bW hF h1 hB1.p [59] (by decide) ha);have AC3:=Lib.hid (fun W1 (h1:Mk g fv F (ai (aD 7 s)) W1)=>bF hF h1 hn2.p);have AC4:=Lib.hid (fun W1 (h1:Mk g fv F (ac F (ai (aD 7 s))) W1)=>dK hF hL HL h1 hq3 (hB3.mono (by omega)))
   go_wp2_with (first
     | (go_at_call 89;with_reducible refine(AC1.out _ E0.out.m).mono (Mz.k E0 fun aw1 A1=>?_))
     | (go_at_call 87;with_reducible refine(AC2.out _ A1.out.m).mono (Mz.k A1 fun aw2 A2=>?_))
     | (go_at_call 106;with_reducible refine(AC3.out _ A2.out.m).mono (Mz.k A2 fun aw3 A3=>?_))
     | (go_at_call 213;with_reducible refine(AC4.out _ A3.out.m).mono (Mz.k A3 fun aw4 A4=>?_))
     | fail)
   first|go_end0|refine bn ?_
   refine⟨rfl,?_⟩;rw[HT.out];unfold cG;simp only[hcond,if_true];rw[if_pos ha];exact A4.out
end Go.Proofs.YtfagdpfgifgnoaaGreatDoor
