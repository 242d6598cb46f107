/- The parser: for, no word behind it. -/
import Derived.Test.YtlbfdbinaekjoaaGreatDoorPt13
namespace Go.Proofs.YtlbfdbinaekjoaaGreatDoor
open Go.RowKit
set_option linter.unusedVariables false
set_option linter.unusedSimpArgs false
set_option maxRecDepth 100000
theorem leaf6_m {g:Nat} {fv:Value} {F:List Lf} {s:Ps} {W:World} (hF:FB F) (h:Mk g fv F s W) (hB:Bd F 100 s) (hs:s.p<F.length) :
    Calls Tryz.prog 33 #[.pointer (some ⟨g,0,none⟩),.int .i64 6] W fun e w'=>e=.returned (.tuple #[])∧Mz g fv F W (leafP 6 s) w':=leaf_m 6 (by omega) hF h hB hs
theorem leaf7_m {g:Nat} {fv:Value} {F:List Lf} {s:Ps} {W:World} (hF:FB F) (h:Mk g fv F s W) (hB:Bd F 100 s) (hs:s.p<F.length) :
    Calls Tryz.prog 33 #[.pointer (some ⟨g,0,none⟩),.int .i64 7] W fun e w'=>e=.returned (.tuple #[])∧Mz g fv F W (leafP 7 s) w':=leaf_m 7 (by omega) hF h hB hs
theorem leaf17_m {g:Nat} {fv:Value} {F:List Lf} {s:Ps} {W:World} (hF:FB F) (h:Mk g fv F s W) (hB:Bd F 100 s) (hs:s.p<F.length) :
    Calls Tryz.prog 33 #[.pointer (some ⟨g,0,none⟩),.int .i64 17] W fun e w'=>e=.returned (.tuple #[])∧Mz g fv F W (leafP 17 s) w':=leaf_m 17 (by omega) hF h hB hs
theorem lines_no {F:List Lf} {s:Ps} (hs:s.p≤F.length) (h:comes F [110] s=false):linesP F s=s:=
  LC.stepn lines_c hs (by show (if _ then _ else _)=_;rw[if_neg (by rw[h];decide)])
set_option maxHeartbeats 8000000 in
theorem each0_m {g:Nat} {fv:Value} {F:List Lf} {L:Ps→Ps} {q:Nat} {s:Ps} {W:World} (hF:FB F) (hL:GL F L) (HL:ListC g fv F L q) (h:Mk g fv F s W) (hq:q≤s.p) (hB:Bd F 0 s) (hw:isW F s.p=false) :
    Calls Tryz.prog 108 #[.pointer (some ⟨g,0,none⟩)] W fun e w'=>e=.returned (.tuple #[])∧Mz g fv F W (eachP F L s) w':=by
  have hmix:Tryz.prog.follows .mixedOrders=true:=by kernel_rfl
  obtain⟨T,hT⟩:∃T,T=eachP F L s:=⟨_,rfl⟩
  rw[←hT]
  have HT:=Lib.hid hT
  clear hT
  have hn:=hF.n
  have hw0:=fun W1 (h1:Mk g fv F s W1)=>isWord_m hF h1 hB.p
  rw[hw] at hw0
  have HW:=Lib.hid hw0
  obtain⟨y0,y1,y3,y4,_⟩:=h.cells
  obtain⟨A,c,hfv⟩:=h.f.formm
  have H0:=Lib.hid (Mz.start h)
  clear h hw0 y3 y4 hfv
  have hcond:(isW F s.p&&nameT (tx F s.p))=false:=by rw[hw];rfl
  have hg1:=gd_miss (F:=F) hB.p
  have hB1:=hB.gd hg1
  have hq1:=Nat.le_trans hq hg1.p
  go_enter Tryz.func108,Tryz.ntmps108
  go_wp2_with fail
  obtain⟨S0,hS0⟩:∃S0:World→Prop,S0=fun w'=>Below W.heap.size W w':=⟨_,rfl⟩
  refine wp_region_held (S:=S0) hmix ?_
  show wpAnyH _ _ _ _ _ _ _ _ W.drew
  have hS1:S0 W.drew:=by rw[hS0];exact(Below.refl _ W).drew
  have tc:∀(w':World),S0 w'→∀(a:Addr) (v:Value),W.cell? a=some v→w'.cell? a=some v:=fun w' h a v hc=>bkp (by rw[hS0] at h;exact h) hc
  refine wpAnyH_take (i:=0) (v:=.pointer (some ⟨g,0,none⟩)) rfl (by decide +kernel) (by decide +kernel) (by decide +kernel) (fun _ _ _ h=>h) (Or.inl ⟨by rfl,fun w' hS=>?_⟩) hS1 ?_
  ·go_simp
  try simp only[Act.put,List.getElem_toArray,List.getElem_cons_succ,List.getElem_cons_zero,List.setIfInBounds_toArray,List.set_cons_zero,List.set_cons_succ]
  refine wpAnyH_all (rs:=[1]) (by decide +kernel) (by simp) (allH1 rfl (by rfl) (fun K2 hK2=>?_) (allH0 (S:=S0)))
  go_simp
  go_at_call 115
  refine(HW.out _ (H0.out.m.next (Below.refl _ W).drew).1).mono ?_
  rintro e w1 ⟨rfl,hz⟩
  have HB:=Lib.hid ((Below.refl _ W).drew.trans hz)
  clear hz
  have hS2:S0 w1:=by rw[hS0];exact HB.out
  refine hK2 _ _ hS2 ?_
  clear hK2 K2
  try simp only[Act.put,List.getElem_toArray,List.getElem_cons_succ,List.getElem_cons_zero,List.setIfInBounds_toArray,List.set_cons_zero,List.set_cons_succ]
  refine wpAnyH_take (i:=2) (v:=.bool false) rfl (by decide +kernel) (by decide +kernel) (by decide +kernel) (fun _ _ _ h=>h) (Or.inl ⟨by rfl,fun w' hS=>?_⟩) hS2 ?_
  ·go_simp
  try simp only[Act.put,List.getElem_toArray,List.getElem_cons_succ,List.getElem_cons_zero,List.setIfInBounds_toArray,List.set_cons_zero,List.set_cons_succ]
  refine wpAnyH_take (i:=3) (v:=undef) rfl (by decide +kernel) (by decide +kernel) (by decide +kernel) (fun _ _ _ h=>h) (Or.inr ⟨by rfl,rfl⟩) hS2 ?_
  try simp only[Act.put,List.getElem_toArray,List.getElem_cons_succ,List.getElem_cons_zero,List.setIfInBounds_toArray,List.set_cons_zero,List.set_cons_succ]
  refine wpAnyH_take (i:=4) (v:=undef) rfl (by decide +kernel) (by decide +kernel) (by decide +kernel) (fun _ _ _ h=>h) (Or.inr ⟨by rfl,rfl⟩) hS2 ?_
  try simp only[Act.put,List.getElem_toArray,List.getElem_cons_succ,List.getElem_cons_zero,List.setIfInBounds_toArray,List.set_cons_zero,List.set_cons_succ]
  refine wpAnyH_take (i:=5) (v:=undef) rfl (by decide +kernel) (by decide +kernel) (by decide +kernel) (fun _ _ _ h=>h) (Or.inr ⟨by rfl,rfl⟩) hS2 ?_
  try simp only[Act.put,List.getElem_toArray,List.getElem_cons_succ,List.getElem_cons_zero,List.setIfInBounds_toArray,List.set_cons_zero,List.set_cons_succ]
  refine wpAnyH_take (i:=6) (v:=undef) rfl (by decide +kernel) (by decide +kernel) (by decide +kernel) (fun _ _ _ h=>h) (Or.inr ⟨by rfl,rfl⟩) hS2 ?_
  try simp only[Act.put,List.getElem_toArray,List.getElem_cons_succ,List.getElem_cons_zero,List.setIfInBounds_toArray,List.set_cons_zero,List.set_cons_succ]
  refine wpAnyH_take (i:=7) (v:=undef) rfl (by decide +kernel) (by decide +kernel) (by decide +kernel) (fun _ _ _ h=>h) (Or.inr ⟨by rfl,rfl⟩) hS2 ?_
  try simp only[Act.put,List.getElem_toArray,List.getElem_cons_succ,List.getElem_cons_zero,List.setIfInBounds_toArray,List.set_cons_zero,List.set_cons_succ]
  refine wpAnyH_take (i:=8) (v:=undef) rfl (by decide +kernel) (by decide +kernel) (by decide +kernel) (fun _ _ _ h=>h) (Or.inr ⟨by rfl,rfl⟩) hS2 ?_
  try simp only[Act.put,List.getElem_toArray,List.getElem_cons_succ,List.getElem_cons_zero,List.setIfInBounds_toArray,List.set_cons_zero,List.set_cons_succ]
  refine wpAnyH_take (i:=9) (v:=undef) rfl (by decide +kernel) (by decide +kernel) (by decide +kernel) (fun _ _ _ h=>h) (Or.inr ⟨by rfl,rfl⟩) hS2 ?_
  try simp only[Act.put,List.getElem_toArray,List.getElem_cons_succ,List.getElem_cons_zero,List.setIfInBounds_toArray,List.set_cons_zero,List.set_cons_succ]
  refine wpAnyH_take (i:=10) (v:=undef) rfl (by decide +kernel) (by decide +kernel) (by decide +kernel) (fun _ _ _ h=>h) (Or.inr ⟨by rfl,rfl⟩) hS2 ?_
  try simp only[Act.put,List.getElem_toArray,List.getElem_cons_succ,List.getElem_cons_zero,List.setIfInBounds_toArray,List.set_cons_zero,List.set_cons_succ]
  refine wpAnyH_take (i:=11) (v:=undef) rfl (by decide +kernel) (by decide +kernel) (by decide +kernel) (fun _ _ _ h=>h) (Or.inr ⟨by rfl,rfl⟩) hS2 ?_
  try simp only[Act.put,List.getElem_toArray,List.getElem_cons_succ,List.getElem_cons_zero,List.setIfInBounds_toArray,List.set_cons_zero,List.set_cons_succ]
  refine wpAnyH_take (i:=12) (v:=undef) rfl (by decide +kernel) (by decide +kernel) (by decide +kernel) (fun _ _ _ h=>h) (Or.inr ⟨by rfl,rfl⟩) hS2 ?_
  try simp only[Act.put,List.getElem_toArray,List.getElem_cons_succ,List.getElem_cons_zero,List.setIfInBounds_toArray,List.set_cons_zero,List.set_cons_succ]
  refine wpAnyH_take (i:=13) (v:=undef) rfl (by decide +kernel) (by decide +kernel) (by decide +kernel) (fun _ _ _ h=>h) (Or.inr ⟨by rfl,rfl⟩) hS2 ?_
  try simp only[Act.put,List.getElem_toArray,List.getElem_cons_succ,List.getElem_cons_zero,List.setIfInBounds_toArray,List.set_cons_zero,List.set_cons_succ]
  refine wpAnyH_take (i:=14) (v:=undef) rfl (by decide +kernel) (by decide +kernel) (by decide +kernel) (fun _ _ _ h=>h) (Or.inr ⟨by rfl,rfl⟩) hS2 ?_
  try simp only[Act.put,List.getElem_toArray,List.getElem_cons_succ,List.getElem_cons_zero,List.setIfInBounds_toArray,List.set_cons_zero,List.set_cons_succ]
  refine wpAnyH_take (i:=15) (v:=.bool false) rfl (by decide +kernel) (by decide +kernel) (by decide +kernel) (fun _ _ _ h=>h) (Or.inl ⟨by rfl,fun w' hS=>?_⟩) hS2 ?_
  ·go_simp
  try simp only[Act.put,List.getElem_toArray,List.getElem_cons_succ,List.getElem_cons_zero,List.setIfInBounds_toArray,List.set_cons_zero,List.set_cons_succ]
  refine wpAnyH_done (by decide +kernel) ?_ _
  have E0:=Lib.hid (H0.out.next HB.out)
  clear hS0 hS1 hS2 tc
  cases ha:comes F [59] (missP s)
  ·have hg3:=gd_lines (F:=F) hB1.p
   have hB3:=hB1.gd hg3
   have hq3:=Nat.le_trans hq1 hg3.p
   cases hk:comes F [107] (linesP F (missP s))
   ·have AC1:=Lib.hid (fun W1 (h1:Mk g fv F (s) W1)=>missing_m hF h1 (hB.mono (by omega)))
    have AC2:=Lib.hid (fun W1 (h1:Mk g fv F (missP s) W1)=>take_mn hF h1 hB1.p [59] (by decide) ha)
    have AC3:=Lib.hid (fun W1 (h1:Mk g fv F (missP s) W1)=>lines_m hF h1 hB1.p)
    have AC4:=Lib.hid (fun W1 (h1:Mk g fv F (linesP F (missP s)) W1)=>take_mn hF h1 hB3.p [107] (by decide) hk)
    have AC5:=Lib.hid (fun W1 (h1:Mk g fv F (linesP F (missP s)) W1)=>do13_m hF hL HL h1 hq3 (hB3.mono (by omega)))
    go_wp2_with (first
      | (go_at_call 67
         with_reducible refine(AC1.out _ E0.out.m).mono ?_
         rintro e aw1 ⟨rfl,hz⟩
         have A1:=Lib.hid (E0.out.then hz)
         clear hz)
      | (go_at_call 30
         with_reducible refine(AC2.out _ A1.out.m).mono ?_
         rintro e aw2 ⟨rfl,hz⟩
         have A2:=Lib.hid (A1.out.then hz)
         clear hz)
      | (go_at_call 52
         with_reducible refine(AC3.out _ A2.out.m).mono ?_
         rintro e aw3 ⟨rfl,hz⟩
         have A3:=Lib.hid (A2.out.then hz)
         clear hz)
      | (go_at_call 30
         with_reducible refine(AC4.out _ A3.out.m).mono ?_
         rintro e aw4 ⟨rfl,hz⟩
         have A4:=Lib.hid (A3.out.then hz)
         clear hz)
      | (go_at_call 142
         with_reducible refine(AC5.out _ A4.out.m).mono ?_
         rintro e aw5 ⟨rfl,hz⟩
         have A5:=Lib.hid (A4.out.then hz)
         clear hz)
      | fail)
    first|go_end0|refine bodyPost_ret (results_none rfl _ _ _) rfl ?_
    refine⟨rfl,?_⟩
    rw[HT.out]
    unfold eachP
    simp only[hcond,if_false,Bool.false_eq_true]
    rw[if_neg (by rw[ha];decide),if_neg (by rw[hk];decide)]
    exact A5.out
   ·have hlt3:=comes_lt hk (by decide)
    have hn4:=hB3.next hlt3 (by omega)
    have hq4:q≤(nextP (linesP F (missP s))).p:=Nat.le_trans hq3 (Nat.le_succ _)
    have AC1:=Lib.hid (fun W1 (h1:Mk g fv F (s) W1)=>missing_m hF h1 (hB.mono (by omega)))
    have AC2:=Lib.hid (fun W1 (h1:Mk g fv F (missP s) W1)=>take_mn hF h1 hB1.p [59] (by decide) ha)
    have AC3:=Lib.hid (fun W1 (h1:Mk g fv F (missP s) W1)=>lines_m hF h1 hB1.p)
    have AC4:=Lib.hid (fun W1 (h1:Mk g fv F (linesP F (missP s)) W1)=>take_my hF h1 hB3.p [107] (by decide) hk)
    go_wp2_with (first
      | (go_at_call 67
         with_reducible refine(AC1.out _ E0.out.m).mono ?_
         rintro e aw1 ⟨rfl,hz⟩
         have A1:=Lib.hid (E0.out.then hz)
         clear hz)
      | (go_at_call 30
         with_reducible refine(AC2.out _ A1.out.m).mono ?_
         rintro e aw2 ⟨rfl,hz⟩
         have A2:=Lib.hid (A1.out.then hz)
         clear hz)
      | (go_at_call 52
         with_reducible refine(AC3.out _ A2.out.m).mono ?_
         rintro e aw3 ⟨rfl,hz⟩
         have A3:=Lib.hid (A2.out.then hz)
         clear hz)
      | (go_at_call 30
         with_reducible refine(AC4.out _ A3.out.m).mono ?_
         rintro e aw4 ⟨rfl,hz⟩
         have A4:=Lib.hid (A3.out.then hz)
         clear hz)
      | fail)
    go_loopw [] (fun wr=>∃u:Ps,q≤u.p∧Bd F 0 u∧(loopP F.length (fun s=>if isW F s.p=true then (leafP 7 s,true) else (s,false))) u=(loopP F.length (fun s=>if isW F s.p=true then (leafP 7 s,true) else (s,false))) (nextP (linesP F (missP s)))∧Mz g fv F W u wr) (fun wr=>F.length-pOf g wr)
    case atStart=>exact⟨_,hq4,hn4,rfl,A4.out⟩
    case round=>
      obtain⟨u,hqu,hBu,hlu,hz⟩:=hrel
      have U0:=Lib.hid hz
      have HU:=Lib.hid hlu
      have hup:=hz.m.pOf
      have HP:=Lib.hid hup
      clear hz hlu hup
      cases hb:isW F u.p
      ·have HE:=Lib.hid (HU.out.symm.trans (LC.stepn words_c hBu.p (t:=u) (by show (if _ then _ else _)=_;rw[if_neg (by rw[hb];decide)])))
       cases hs9:comes F [59] u
       ·have hg7:=gd_lines (F:=F) hBu.p
        have hB7:=hBu.gd hg7
        have hq7:=Nat.le_trans hqu hg7.p
        cases hy9:comes F [110] u
        ·have hg8:=gd_miss (F:=F) hB7.p
         have hB8:=hB7.gd hg8
         have hq8:=Nat.le_trans hq7 hg8.p
         have e9:=Lib.hid (lines_no hBu.p hy9)
         have NC1:=Lib.hid (fun W1 (h1:Mk g fv F (u) W1)=>isWord_mn hF h1 hBu.p hb)
         have NC2:=Lib.hid (fun W1 (h1:Mk g fv F (u) W1)=>take_mn hF h1 hBu.p [59] (by decide) hs9)
         have NC3:=Lib.hid (fun W1 (h1:Mk g fv F (u) W1)=>lines_mn hF h1 hBu.p hy9)
         have NC4:=Lib.hid (fun W1 (h1:Mk g fv F (linesP F u) W1)=>missing_m hF h1 (hB7.mono (by omega)))
         have NC5:=Lib.hid (fun W1 (h1:Mk g fv F (missP (linesP F u)) W1)=>do13_m hF hL HL h1 hq8 (hB8.mono (by omega)))
         go_wp2_with (first
           | (go_at_call 115
              with_reducible refine(NC1.out _ U0.out.m).mono ?_
              rintro e nw1 ⟨rfl,hz⟩
              have N1:=Lib.hid (U0.out.then hz)
              clear hz)
           | (go_at_call 30
              with_reducible refine(NC2.out _ N1.out.m).mono ?_
              rintro e nw2 ⟨rfl,hz⟩
              have N2:=Lib.hid (N1.out.then hz)
              clear hz)
           | (go_at_call 52
              with_reducible refine(NC3.out _ N2.out.m).mono ?_
              rintro e nw3 ⟨rfl,hz⟩
              have N3:=Lib.hid (N2.out.then hz)
              clear hz)
           | (go_at_call 67
              with_reducible refine(NC4.out _ N3.out.m).mono ?_
              rintro e nw4 ⟨rfl,hz⟩
              have N4:=Lib.hid (N3.out.then hz)
              clear hz)
           | (go_at_call 142
              with_reducible refine(NC5.out _ N4.out.m).mono ?_
              rintro e nw5 ⟨rfl,hz⟩
              have N5:=Lib.hid (N4.out.then hz)
              clear hz)
           | fail)
         first|go_end0|refine bodyPost_ret (results_none rfl _ _ _) rfl ?_
         refine⟨rfl,?_⟩
         rw[HT.out]
         unfold eachP
         simp only[hcond,if_false,Bool.false_eq_true]
         rw[if_neg (by rw[ha];decide),if_pos hk]
         unfold inP wordsP
         simp only
         rw[HE.out]
         rw[if_neg (by rw[hs9];decide),if_neg (by rw[hy9];decide)]
         rw[←show missP (linesP F u)=missP u by rw[e9.out]]
         exact N5.out
        ·have NC1:=Lib.hid (fun W1 (h1:Mk g fv F (u) W1)=>isWord_mn hF h1 hBu.p hb)
         have NC2:=Lib.hid (fun W1 (h1:Mk g fv F (u) W1)=>take_mn hF h1 hBu.p [59] (by decide) hs9)
         have NC3:=Lib.hid (fun W1 (h1:Mk g fv F (u) W1)=>lines_my hF h1 hBu.p hy9)
         have NC4:=Lib.hid (fun W1 (h1:Mk g fv F (linesP F u) W1)=>do13_m hF hL HL h1 hq7 (hB7.mono (by omega)))
         go_wp2_with (first
           | (go_at_call 115
              with_reducible refine(NC1.out _ U0.out.m).mono ?_
              rintro e nw1 ⟨rfl,hz⟩
              have N1:=Lib.hid (U0.out.then hz)
              clear hz)
           | (go_at_call 30
              with_reducible refine(NC2.out _ N1.out.m).mono ?_
              rintro e nw2 ⟨rfl,hz⟩
              have N2:=Lib.hid (N1.out.then hz)
              clear hz)
           | (go_at_call 52
              with_reducible refine(NC3.out _ N2.out.m).mono ?_
              rintro e nw3 ⟨rfl,hz⟩
              have N3:=Lib.hid (N2.out.then hz)
              clear hz)
           | (go_at_call 142
              with_reducible refine(NC4.out _ N3.out.m).mono ?_
              rintro e nw4 ⟨rfl,hz⟩
              have N4:=Lib.hid (N3.out.then hz)
              clear hz)
           | fail)
         first|go_end0|refine bodyPost_ret (results_none rfl _ _ _) rfl ?_
         refine⟨rfl,?_⟩
         rw[HT.out]
         unfold eachP
         simp only[hcond,if_false,Bool.false_eq_true]
         rw[if_neg (by rw[ha];decide),if_pos hk]
         unfold inP wordsP
         simp only
         rw[HE.out]
         rw[if_neg (by rw[hs9];decide),if_pos hy9]
         exact N4.out
       ·have hlt5:=comes_lt hs9 (by decide)
        have hn6:=hBu.next hlt5 (by omega)
        have hg7:=gd_lines (F:=F) hn6.p
        have hB7:=hn6.gd hg7
        have hq7:q≤(linesP F (nextP u)).p:=Nat.le_trans hqu (Nat.le_trans (Nat.le_succ _) hg7.p)
        cases hy9:comes F [110] (nextP u)
        have NC1:=Lib.hid (fun W1 (h1:Mk g fv F (u) W1)=>isWord_mn hF h1 hBu.p hb)
        have NC2:=Lib.hid (fun W1 (h1:Mk g fv F (u) W1)=>take_my hF h1 hBu.p [59] (by decide) hs9)
        have NC3:=Lib.hid (fun W1 (h1:Mk g fv F (nextP u) W1)=>lines_mn hF h1 hn6.p hy9)
        rotate_left
        have NC1:=Lib.hid (fun W1 (h1:Mk g fv F (u) W1)=>isWord_mn hF h1 hBu.p hb)
        have NC2:=Lib.hid (fun W1 (h1:Mk g fv F (u) W1)=>take_my hF h1 hBu.p [59] (by decide) hs9)
        have NC3:=Lib.hid (fun W1 (h1:Mk g fv F (nextP u) W1)=>lines_my hF h1 hn6.p hy9)
        rotate_left
        all_goals (
          have NC4:=Lib.hid (fun W1 (h1:Mk g fv F (linesP F (nextP u)) W1)=>do13_m hF hL HL h1 hq7 (hB7.mono (by omega)))
          go_wp2_with (first
            | (go_at_call 115
               with_reducible refine(NC1.out _ U0.out.m).mono ?_
               rintro e nw1 ⟨rfl,hz⟩
               have N1:=Lib.hid (U0.out.then hz)
               clear hz)
            | (go_at_call 30
               with_reducible refine(NC2.out _ N1.out.m).mono ?_
               rintro e nw2 ⟨rfl,hz⟩
               have N2:=Lib.hid (N1.out.then hz)
               clear hz)
            | (go_at_call 52
               with_reducible refine(NC3.out _ N2.out.m).mono ?_
               rintro e nw3 ⟨rfl,hz⟩
               have N3:=Lib.hid (N2.out.then hz)
               clear hz)
            | (go_at_call 142
               with_reducible refine(NC4.out _ N3.out.m).mono ?_
               rintro e nw4 ⟨rfl,hz⟩
               have N4:=Lib.hid (N3.out.then hz)
               clear hz)
            | fail)
          first|go_end0|refine bodyPost_ret (results_none rfl _ _ _) rfl ?_
          refine⟨rfl,?_⟩
          rw[HT.out]
          unfold eachP
          simp only[hcond,if_false,Bool.false_eq_true]
          rw[if_neg (by rw[ha];decide),if_pos hk]
          unfold inP wordsP
          simp only
          rw[HE.out]
          rw[if_pos hs9]
          exact N4.out)
      ·have hlu2:=isW_lt hb
       have hy:=LC.y (words_c u hBu.p) (t:=leafP 7 u) (by show (if _ then _ else _)=_;rw[if_pos hb])
       have HE:=Lib.hid ((LC.stepy words_c hBu.p (t:=leafP 7 u) (by show (if _ then _ else _)=_;rw[if_pos hb])).symm.trans HU.out)
       have YC1:=Lib.hid (fun W1 (h1:Mk g fv F (u) W1)=>isWord_my hF h1 hBu.p hb)
       have YC2:=Lib.hid (fun W1 (h1:Mk g fv F (u) W1)=>leaf7_m hF h1 (hBu.mono (by omega)) hlu2)
       go_wp2_with (first
         | (go_at_call 115
            with_reducible refine(YC1.out _ U0.out.m).mono ?_
            rintro e yw1 ⟨rfl,hz⟩
            have Y1:=Lib.hid (U0.out.then hz)
            clear hz)
         | (go_at_call 33
            with_reducible refine(YC2.out _ Y1.out.m).mono ?_
            rintro e yw2 ⟨rfl,hz⟩
            have Y2:=Lib.hid (Y1.out.then hz)
            clear hz)
         | fail)
       refine⟨⟨_,Nat.le_trans hqu (Nat.le_of_lt hy.2),hBu.gd hy.1,HE.out,Y2.out⟩,?_⟩
       rw[Y2.out.m.pOf,HP.out]
       have:=hy.2
       have:=hy.1.N
       omega
  ·have hlt2:=comes_lt ha (by decide)
   have hn2:=hB1.next hlt2 (by omega)
   have hg3:=gd_lines (F:=F) hn2.p
   have hB3:=hn2.gd hg3
   have hq3:q≤(linesP F (nextP (missP s))).p:=Nat.le_trans hq1 (Nat.le_trans (Nat.le_succ _) hg3.p)
   have AC1:=Lib.hid (fun W1 (h1:Mk g fv F (s) W1)=>missing_m hF h1 (hB.mono (by omega)))
   have AC2:=Lib.hid (fun W1 (h1:Mk g fv F (missP s) W1)=>take_my hF h1 hB1.p [59] (by decide) ha)
   have AC3:=Lib.hid (fun W1 (h1:Mk g fv F (nextP (missP s)) W1)=>lines_m hF h1 hn2.p)
   have AC4:=Lib.hid (fun W1 (h1:Mk g fv F (linesP F (nextP (missP s))) W1)=>do13_m hF hL HL h1 hq3 (hB3.mono (by omega)))
   go_wp2_with (first
     | (go_at_call 67
        with_reducible refine(AC1.out _ E0.out.m).mono ?_
        rintro e aw1 ⟨rfl,hz⟩
        have A1:=Lib.hid (E0.out.then hz)
        clear hz)
     | (go_at_call 30
        with_reducible refine(AC2.out _ A1.out.m).mono ?_
        rintro e aw2 ⟨rfl,hz⟩
        have A2:=Lib.hid (A1.out.then hz)
        clear hz)
     | (go_at_call 52
        with_reducible refine(AC3.out _ A2.out.m).mono ?_
        rintro e aw3 ⟨rfl,hz⟩
        have A3:=Lib.hid (A2.out.then hz)
        clear hz)
     | (go_at_call 142
        with_reducible refine(AC4.out _ A3.out.m).mono ?_
        rintro e aw4 ⟨rfl,hz⟩
        have A4:=Lib.hid (A3.out.then hz)
        clear hz)
     | fail)
   first|go_end0|refine bodyPost_ret (results_none rfl _ _ _) rfl ?_
   refine⟨rfl,?_⟩
   rw[HT.out]
   unfold eachP
   simp only[hcond,if_false,Bool.false_eq_true]
   rw[if_pos ha]
   exact A4.out
end Go.Proofs.YtlbfdbinaekjoaaGreatDoor
namespace Go.Proofs.YtlbfdbinaekjoaaGreatDoor
open Go.RowKit
set_option linter.unusedVariables false
set_option linter.unusedSimpArgs false
set_option maxRecDepth 100000
set_option maxHeartbeats 8000000 in
theorem each1_m {g:Nat} {fv:Value} {F:List Lf} {L:Ps→Ps} {q:Nat} {s:Ps} {W:World} (hF:FB F) (hL:GL F L) (HL:ListC g fv F L q) (h:Mk g fv F s W) (hq:q≤s.p) (hB:Bd F 0 s) (hw:isW F s.p=true) (hnm:nameT (tx F s.p)=false) :
    Calls Tryz.prog 108 #[.pointer (some ⟨g,0,none⟩)] W fun e w'=>e=.returned (.tuple #[])∧Mz g fv F W (eachP F L s) w':=by
  have hmix:Tryz.prog.follows .mixedOrders=true:=by kernel_rfl
  obtain⟨T,hT⟩:∃T,T=eachP F L s:=⟨_,rfl⟩
  rw[←hT]
  have HT:=Lib.hid hT
  clear hT
  have hn:=hF.n
  have hw0:=fun W1 (h1:Mk g fv F s W1)=>isWord_m hF h1 hB.p
  rw[hw] at hw0
  have HW:=Lib.hid hw0
  obtain⟨y0,y1,y3,y4,_⟩:=h.cells
  obtain⟨A,c,hfv⟩:=h.f.formm
  have H0:=Lib.hid (Mz.start h)
  have hlt:=isW_lt hw
  obtain⟨x,hx⟩:∃x,F[s.p]? = some x:=⟨_,List.getElem?_eq_getElem hlt⟩
  have htx:tx F s.p=x.tx:=by unfold tx;rw[hx]
  have htl:=hF.t x (List.mem_of_getElem? hx)
  have hf9:=h.f
  rw[hfv] at hf9
  obtain⟨g1,o1,hA9,z0,z1,z2,z3⟩:=lf_cells hf9 hx rfl
  rw[hfv,hA9] at y0
  have u1:(s.p:Int)<(F.length:Int):=by omega
  have u2:(0:Int)≤(s.p:Int):=by omega
  have hn9:=fun W=>isname_m x.tx W (by omega)
  rw[←htx] at hn9
  rw[hnm] at hn9
  rw[htx] at hn9
  have HN:=Lib.hid hn9
  clear hn9 htx hx htl z0 z2 z3 hf9 hA9
  clear h hw0 y3 y4 hfv
  have hcond:(isW F s.p&&nameT (tx F s.p))=false:=by rw[hw,hnm];rfl
  have hg1:=gd_miss (F:=F) hB.p
  have hB1:=hB.gd hg1
  have hq1:=Nat.le_trans hq hg1.p
  go_enter Tryz.func108,Tryz.ntmps108
  go_wp2_with fail
  obtain⟨S0,hS0⟩:∃S0:World→Prop,S0=fun w'=>Below W.heap.size W w':=⟨_,rfl⟩
  refine wp_region_held (S:=S0) hmix ?_
  show wpAnyH _ _ _ _ _ _ _ _ W.drew
  have hS1:S0 W.drew:=by rw[hS0];exact(Below.refl _ W).drew
  have tc:∀(w':World),S0 w'→∀(a:Addr) (v:Value),W.cell? a=some v→w'.cell? a=some v:=fun w' h a v hc=>bkp (by rw[hS0] at h;exact h) hc
  refine wpAnyH_take (i:=0) (v:=.pointer (some ⟨g,0,none⟩)) rfl (by decide +kernel) (by decide +kernel) (by decide +kernel) (fun _ _ _ h=>h) (Or.inl ⟨by rfl,fun w' hS=>?_⟩) hS1 ?_
  ·go_simp
  try simp only[Act.put,List.getElem_toArray,List.getElem_cons_succ,List.getElem_cons_zero,List.setIfInBounds_toArray,List.set_cons_zero,List.set_cons_succ]
  refine wpAnyH_all (rs:=[1]) (by decide +kernel) (by simp) (allH1 rfl (by rfl) (fun K2 hK2=>?_) (allH0 (S:=S0)))
  go_simp
  go_at_call 115
  refine(HW.out _ (H0.out.m.next (Below.refl _ W).drew).1).mono ?_
  rintro e w1 ⟨rfl,hz⟩
  have HB:=Lib.hid ((Below.refl _ W).drew.trans hz)
  clear hz
  have hS2:S0 w1:=by rw[hS0];exact HB.out
  refine hK2 _ _ hS2 ?_
  clear hK2 K2
  try simp only[Act.put,List.getElem_toArray,List.getElem_cons_succ,List.getElem_cons_zero,List.setIfInBounds_toArray,List.set_cons_zero,List.set_cons_succ]
  refine wpAnyH_take (i:=2) (v:=.bool true) rfl (by decide +kernel) (by decide +kernel) (by decide +kernel) (fun _ _ _ h=>h) (Or.inl ⟨by rfl,fun w' hS=>?_⟩) hS2 ?_
  ·go_simp
  try simp only[Act.put,List.getElem_toArray,List.getElem_cons_succ,List.getElem_cons_zero,List.setIfInBounds_toArray,List.set_cons_zero,List.set_cons_succ]
  refine wpAnyH_take (i:=3) (v:=.pointer (some ⟨g,0,none⟩)) rfl (by decide +kernel) (by decide +kernel) (by decide +kernel) (fun _ _ _ h=>h) (Or.inl ⟨by rfl,fun w' hS=>?_⟩) hS2 ?_
  ·go_simp
  try simp only[Act.put,List.getElem_toArray,List.getElem_cons_succ,List.getElem_cons_zero,List.setIfInBounds_toArray,List.set_cons_zero,List.set_cons_succ]
  refine wpAnyH_take (i:=4) (v:=.pointer (some ⟨g,0,none⟩)) rfl (by decide +kernel) (by decide +kernel) (by decide +kernel) (fun _ _ _ h=>h) (Or.inl ⟨by rfl,fun w' hS=>?_⟩) hS2 ?_
  ·go_simp
  try simp only[Act.put,List.getElem_toArray,List.getElem_cons_succ,List.getElem_cons_zero,List.setIfInBounds_toArray,List.set_cons_zero,List.set_cons_succ]
  refine wpAnyH_take (i:=5) (v:=.pointer (some ⟨g,0,none⟩)) rfl (by decide +kernel) (by decide +kernel) (by decide +kernel) (fun _ _ _ h=>h) (Or.inl ⟨by rfl,fun w' hS=>?_⟩) hS2 ?_
  ·go_simp
  try simp only[Act.put,List.getElem_toArray,List.getElem_cons_succ,List.getElem_cons_zero,List.setIfInBounds_toArray,List.set_cons_zero,List.set_cons_succ]
  refine wpAnyH_take (i:=6) (v:=.slice (some ⟨g1,o1,none⟩) F.length c) rfl (by decide +kernel) (by decide +kernel) (by decide +kernel) (fun _ _ _ h=>h) (Or.inl ⟨by rfl,fun w' hS=>?_⟩) hS2 ?_
  ·have c0:=tc w' hS _ _ y0;go_simp
  try simp only[Act.put,List.getElem_toArray,List.getElem_cons_succ,List.getElem_cons_zero,List.setIfInBounds_toArray,List.set_cons_zero,List.set_cons_succ]
  refine wpAnyH_take (i:=7) (v:=.pointer (some ⟨g,0,none⟩)) rfl (by decide +kernel) (by decide +kernel) (by decide +kernel) (fun _ _ _ h=>h) (Or.inl ⟨by rfl,fun w' hS=>?_⟩) hS2 ?_
  ·go_simp
  try simp only[Act.put,List.getElem_toArray,List.getElem_cons_succ,List.getElem_cons_zero,List.setIfInBounds_toArray,List.set_cons_zero,List.set_cons_succ]
  refine wpAnyH_take (i:=8) (v:=.pointer (some ⟨g,0,none⟩)) rfl (by decide +kernel) (by decide +kernel) (by decide +kernel) (fun _ _ _ h=>h) (Or.inl ⟨by rfl,fun w' hS=>?_⟩) hS2 ?_
  ·go_simp
  try simp only[Act.put,List.getElem_toArray,List.getElem_cons_succ,List.getElem_cons_zero,List.setIfInBounds_toArray,List.set_cons_zero,List.set_cons_succ]
  refine wpAnyH_take (i:=9) (v:=.pointer (some ⟨g,1,none⟩)) rfl (by decide +kernel) (by decide +kernel) (by decide +kernel) (fun _ _ _ h=>h) (Or.inl ⟨by rfl,fun w' hS=>?_⟩) hS2 ?_
  ·go_simp
  try simp only[Act.put,List.getElem_toArray,List.getElem_cons_succ,List.getElem_cons_zero,List.setIfInBounds_toArray,List.set_cons_zero,List.set_cons_succ]
  refine wpAnyH_take (i:=10) (v:=.int .i64 (s.p:Int)) rfl (by decide +kernel) (by decide +kernel) (by decide +kernel) (fun _ _ _ h=>h) (Or.inl ⟨by rfl,fun w' hS=>?_⟩) hS2 ?_
  ·have c0:=tc w' hS _ _ y1;go_simp
  try simp only[Act.put,List.getElem_toArray,List.getElem_cons_succ,List.getElem_cons_zero,List.setIfInBounds_toArray,List.set_cons_zero,List.set_cons_succ]
  refine wpAnyH_take (i:=11) (v:=.pointer (some ⟨g1,o1+s.p*4,none⟩)) rfl (by decide +kernel) (by decide +kernel) (by decide +kernel) (fun _ _ _ h=>h) (Or.inl ⟨by rfl,fun w' hS=>?_⟩) hS2 ?_
  ·go_simp
  try simp only[Act.put,List.getElem_toArray,List.getElem_cons_succ,List.getElem_cons_zero,List.setIfInBounds_toArray,List.set_cons_zero,List.set_cons_succ]
  refine wpAnyH_take (i:=12) (v:=.pointer (some ⟨g1,o1+s.p*4+1,none⟩)) rfl (by decide +kernel) (by decide +kernel) (by decide +kernel) (fun _ _ _ h=>h) (Or.inl ⟨by rfl,fun w' hS=>?_⟩) hS2 ?_
  ·go_simp
  try simp only[Act.put,List.getElem_toArray,List.getElem_cons_succ,List.getElem_cons_zero,List.setIfInBounds_toArray,List.set_cons_zero,List.set_cons_succ]
  refine wpAnyH_take (i:=13) (v:=.string ⟨x.tx.toArray⟩) rfl (by decide +kernel) (by decide +kernel) (by decide +kernel) (fun _ _ _ h=>h) (Or.inl ⟨by rfl,fun w' hS=>?_⟩) hS2 ?_
  ·have c0:=tc w' hS _ _ z1;go_simp
  try simp only[Act.put,List.getElem_toArray,List.getElem_cons_succ,List.getElem_cons_zero,List.setIfInBounds_toArray,List.set_cons_zero,List.set_cons_succ]
  refine wpAnyH_all (rs:=[14]) (by decide +kernel) (by simp) (allH1 rfl (by rfl) (fun K2 hK2=>?_) (allH0 (S:=S0)))
  go_simp
  go_at_call 112
  refine(HN.out _).mono ?_
  rintro e w2 ⟨rfl,rfl⟩
  have hS3:S0 w2:=by rw[hS0];exact HB.out
  refine hK2 _ _ hS3 ?_
  clear hK2 K2
  try simp only[Act.put,List.getElem_toArray,List.getElem_cons_succ,List.getElem_cons_zero,List.setIfInBounds_toArray,List.set_cons_zero,List.set_cons_succ]
  refine wpAnyH_take (i:=15) (v:=.bool false) rfl (by decide +kernel) (by decide +kernel) (by decide +kernel) (fun _ _ _ h=>h) (Or.inl ⟨by rfl,fun w' hS=>?_⟩) hS3 ?_
  ·go_simp
  try simp only[Act.put,List.getElem_toArray,List.getElem_cons_succ,List.getElem_cons_zero,List.setIfInBounds_toArray,List.set_cons_zero,List.set_cons_succ]
  refine wpAnyH_done (by decide +kernel) ?_ _
  have E0:=Lib.hid (H0.out.next HB.out)
  clear hS0 hS1 hS2 tc hS3
  cases ha:comes F [59] (missP s)
  ·have hg3:=gd_lines (F:=F) hB1.p
   have hB3:=hB1.gd hg3
   have hq3:=Nat.le_trans hq1 hg3.p
   cases hk:comes F [107] (linesP F (missP s))
   ·have AC1:=Lib.hid (fun W1 (h1:Mk g fv F (s) W1)=>missing_m hF h1 (hB.mono (by omega)))
    have AC2:=Lib.hid (fun W1 (h1:Mk g fv F (missP s) W1)=>take_mn hF h1 hB1.p [59] (by decide) ha)
    have AC3:=Lib.hid (fun W1 (h1:Mk g fv F (missP s) W1)=>lines_m hF h1 hB1.p)
    have AC4:=Lib.hid (fun W1 (h1:Mk g fv F (linesP F (missP s)) W1)=>take_mn hF h1 hB3.p [107] (by decide) hk)
    have AC5:=Lib.hid (fun W1 (h1:Mk g fv F (linesP F (missP s)) W1)=>do13_m hF hL HL h1 hq3 (hB3.mono (by omega)))
    go_wp2_with (first
      | (go_at_call 67
         with_reducible refine(AC1.out _ E0.out.m).mono ?_
         rintro e aw1 ⟨rfl,hz⟩
         have A1:=Lib.hid (E0.out.then hz)
         clear hz)
      | (go_at_call 30
         with_reducible refine(AC2.out _ A1.out.m).mono ?_
         rintro e aw2 ⟨rfl,hz⟩
         have A2:=Lib.hid (A1.out.then hz)
         clear hz)
      | (go_at_call 52
         with_reducible refine(AC3.out _ A2.out.m).mono ?_
         rintro e aw3 ⟨rfl,hz⟩
         have A3:=Lib.hid (A2.out.then hz)
         clear hz)
      | (go_at_call 30
         with_reducible refine(AC4.out _ A3.out.m).mono ?_
         rintro e aw4 ⟨rfl,hz⟩
         have A4:=Lib.hid (A3.out.then hz)
         clear hz)
      | (go_at_call 142
         with_reducible refine(AC5.out _ A4.out.m).mono ?_
         rintro e aw5 ⟨rfl,hz⟩
         have A5:=Lib.hid (A4.out.then hz)
         clear hz)
      | fail)
    first|go_end0|refine bodyPost_ret (results_none rfl _ _ _) rfl ?_
    refine⟨rfl,?_⟩
    rw[HT.out]
    unfold eachP
    simp only[hcond,if_false,Bool.false_eq_true]
    rw[if_neg (by rw[ha];decide),if_neg (by rw[hk];decide)]
    exact A5.out
   ·have hlt3:=comes_lt hk (by decide)
    have hn4:=hB3.next hlt3 (by omega)
    have hq4:q≤(nextP (linesP F (missP s))).p:=Nat.le_trans hq3 (Nat.le_succ _)
    have AC1:=Lib.hid (fun W1 (h1:Mk g fv F (s) W1)=>missing_m hF h1 (hB.mono (by omega)))
    have AC2:=Lib.hid (fun W1 (h1:Mk g fv F (missP s) W1)=>take_mn hF h1 hB1.p [59] (by decide) ha)
    have AC3:=Lib.hid (fun W1 (h1:Mk g fv F (missP s) W1)=>lines_m hF h1 hB1.p)
    have AC4:=Lib.hid (fun W1 (h1:Mk g fv F (linesP F (missP s)) W1)=>take_my hF h1 hB3.p [107] (by decide) hk)
    go_wp2_with (first
      | (go_at_call 67
         with_reducible refine(AC1.out _ E0.out.m).mono ?_
         rintro e aw1 ⟨rfl,hz⟩
         have A1:=Lib.hid (E0.out.then hz)
         clear hz)
      | (go_at_call 30
         with_reducible refine(AC2.out _ A1.out.m).mono ?_
         rintro e aw2 ⟨rfl,hz⟩
         have A2:=Lib.hid (A1.out.then hz)
         clear hz)
      | (go_at_call 52
         with_reducible refine(AC3.out _ A2.out.m).mono ?_
         rintro e aw3 ⟨rfl,hz⟩
         have A3:=Lib.hid (A2.out.then hz)
         clear hz)
      | (go_at_call 30
         with_reducible refine(AC4.out _ A3.out.m).mono ?_
         rintro e aw4 ⟨rfl,hz⟩
         have A4:=Lib.hid (A3.out.then hz)
         clear hz)
      | fail)
    go_loopw [] (fun wr=>∃u:Ps,q≤u.p∧Bd F 0 u∧(loopP F.length (fun s=>if isW F s.p=true then (leafP 7 s,true) else (s,false))) u=(loopP F.length (fun s=>if isW F s.p=true then (leafP 7 s,true) else (s,false))) (nextP (linesP F (missP s)))∧Mz g fv F W u wr) (fun wr=>F.length-pOf g wr)
    case atStart=>exact⟨_,hq4,hn4,rfl,A4.out⟩
    case round=>
      obtain⟨u,hqu,hBu,hlu,hz⟩:=hrel
      have U0:=Lib.hid hz
      have HU:=Lib.hid hlu
      have hup:=hz.m.pOf
      have HP:=Lib.hid hup
      clear hz hlu hup
      cases hb:isW F u.p
      ·have HE:=Lib.hid (HU.out.symm.trans (LC.stepn words_c hBu.p (t:=u) (by show (if _ then _ else _)=_;rw[if_neg (by rw[hb];decide)])))
       cases hs9:comes F [59] u
       ·have hg7:=gd_lines (F:=F) hBu.p
        have hB7:=hBu.gd hg7
        have hq7:=Nat.le_trans hqu hg7.p
        cases hy9:comes F [110] u
        ·have hg8:=gd_miss (F:=F) hB7.p
         have hB8:=hB7.gd hg8
         have hq8:=Nat.le_trans hq7 hg8.p
         have e9:=Lib.hid (lines_no hBu.p hy9)
         have NC1:=Lib.hid (fun W1 (h1:Mk g fv F (u) W1)=>isWord_mn hF h1 hBu.p hb)
         have NC2:=Lib.hid (fun W1 (h1:Mk g fv F (u) W1)=>take_mn hF h1 hBu.p [59] (by decide) hs9)
         have NC3:=Lib.hid (fun W1 (h1:Mk g fv F (u) W1)=>lines_mn hF h1 hBu.p hy9)
         have NC4:=Lib.hid (fun W1 (h1:Mk g fv F (linesP F u) W1)=>missing_m hF h1 (hB7.mono (by omega)))
         have NC5:=Lib.hid (fun W1 (h1:Mk g fv F (missP (linesP F u)) W1)=>do13_m hF hL HL h1 hq8 (hB8.mono (by omega)))
         go_wp2_with (first
           | (go_at_call 115
              with_reducible refine(NC1.out _ U0.out.m).mono ?_
              rintro e nw1 ⟨rfl,hz⟩
              have N1:=Lib.hid (U0.out.then hz)
              clear hz)
           | (go_at_call 30
              with_reducible refine(NC2.out _ N1.out.m).mono ?_
              rintro e nw2 ⟨rfl,hz⟩
              have N2:=Lib.hid (N1.out.then hz)
              clear hz)
           | (go_at_call 52
              with_reducible refine(NC3.out _ N2.out.m).mono ?_
              rintro e nw3 ⟨rfl,hz⟩
              have N3:=Lib.hid (N2.out.then hz)
              clear hz)
           | (go_at_call 67
              with_reducible refine(NC4.out _ N3.out.m).mono ?_
              rintro e nw4 ⟨rfl,hz⟩
              have N4:=Lib.hid (N3.out.then hz)
              clear hz)
           | (go_at_call 142
              with_reducible refine(NC5.out _ N4.out.m).mono ?_
              rintro e nw5 ⟨rfl,hz⟩
              have N5:=Lib.hid (N4.out.then hz)
              clear hz)
           | fail)
         first|go_end0|refine bodyPost_ret (results_none rfl _ _ _) rfl ?_
         refine⟨rfl,?_⟩
         rw[HT.out]
         unfold eachP
         simp only[hcond,if_false,Bool.false_eq_true]
         rw[if_neg (by rw[ha];decide),if_pos hk]
         unfold inP wordsP
         simp only
         rw[HE.out]
         rw[if_neg (by rw[hs9];decide),if_neg (by rw[hy9];decide)]
         rw[←show missP (linesP F u)=missP u by rw[e9.out]]
         exact N5.out
        ·have NC1:=Lib.hid (fun W1 (h1:Mk g fv F (u) W1)=>isWord_mn hF h1 hBu.p hb)
         have NC2:=Lib.hid (fun W1 (h1:Mk g fv F (u) W1)=>take_mn hF h1 hBu.p [59] (by decide) hs9)
         have NC3:=Lib.hid (fun W1 (h1:Mk g fv F (u) W1)=>lines_my hF h1 hBu.p hy9)
         have NC4:=Lib.hid (fun W1 (h1:Mk g fv F (linesP F u) W1)=>do13_m hF hL HL h1 hq7 (hB7.mono (by omega)))
         go_wp2_with (first
           | (go_at_call 115
              with_reducible refine(NC1.out _ U0.out.m).mono ?_
              rintro e nw1 ⟨rfl,hz⟩
              have N1:=Lib.hid (U0.out.then hz)
              clear hz)
           | (go_at_call 30
              with_reducible refine(NC2.out _ N1.out.m).mono ?_
              rintro e nw2 ⟨rfl,hz⟩
              have N2:=Lib.hid (N1.out.then hz)
              clear hz)
           | (go_at_call 52
              with_reducible refine(NC3.out _ N2.out.m).mono ?_
              rintro e nw3 ⟨rfl,hz⟩
              have N3:=Lib.hid (N2.out.then hz)
              clear hz)
           | (go_at_call 142
              with_reducible refine(NC4.out _ N3.out.m).mono ?_
              rintro e nw4 ⟨rfl,hz⟩
              have N4:=Lib.hid (N3.out.then hz)
              clear hz)
           | fail)
         first|go_end0|refine bodyPost_ret (results_none rfl _ _ _) rfl ?_
         refine⟨rfl,?_⟩
         rw[HT.out]
         unfold eachP
         simp only[hcond,if_false,Bool.false_eq_true]
         rw[if_neg (by rw[ha];decide),if_pos hk]
         unfold inP wordsP
         simp only
         rw[HE.out]
         rw[if_neg (by rw[hs9];decide),if_pos hy9]
         exact N4.out
       ·have hlt5:=comes_lt hs9 (by decide)
        have hn6:=hBu.next hlt5 (by omega)
        have hg7:=gd_lines (F:=F) hn6.p
        have hB7:=hn6.gd hg7
        have hq7:q≤(linesP F (nextP u)).p:=Nat.le_trans hqu (Nat.le_trans (Nat.le_succ _) hg7.p)
        cases hy9:comes F [110] (nextP u)
        have NC1:=Lib.hid (fun W1 (h1:Mk g fv F (u) W1)=>isWord_mn hF h1 hBu.p hb)
        have NC2:=Lib.hid (fun W1 (h1:Mk g fv F (u) W1)=>take_my hF h1 hBu.p [59] (by decide) hs9)
        have NC3:=Lib.hid (fun W1 (h1:Mk g fv F (nextP u) W1)=>lines_mn hF h1 hn6.p hy9)
        rotate_left
        have NC1:=Lib.hid (fun W1 (h1:Mk g fv F (u) W1)=>isWord_mn hF h1 hBu.p hb)
        have NC2:=Lib.hid (fun W1 (h1:Mk g fv F (u) W1)=>take_my hF h1 hBu.p [59] (by decide) hs9)
        have NC3:=Lib.hid (fun W1 (h1:Mk g fv F (nextP u) W1)=>lines_my hF h1 hn6.p hy9)
        rotate_left
        all_goals (
          have NC4:=Lib.hid (fun W1 (h1:Mk g fv F (linesP F (nextP u)) W1)=>do13_m hF hL HL h1 hq7 (hB7.mono (by omega)))
          go_wp2_with (first
            | (go_at_call 115
               with_reducible refine(NC1.out _ U0.out.m).mono ?_
               rintro e nw1 ⟨rfl,hz⟩
               have N1:=Lib.hid (U0.out.then hz)
               clear hz)
            | (go_at_call 30
               with_reducible refine(NC2.out _ N1.out.m).mono ?_
               rintro e nw2 ⟨rfl,hz⟩
               have N2:=Lib.hid (N1.out.then hz)
               clear hz)
            | (go_at_call 52
               with_reducible refine(NC3.out _ N2.out.m).mono ?_
               rintro e nw3 ⟨rfl,hz⟩
               have N3:=Lib.hid (N2.out.then hz)
               clear hz)
            | (go_at_call 142
               with_reducible refine(NC4.out _ N3.out.m).mono ?_
               rintro e nw4 ⟨rfl,hz⟩
               have N4:=Lib.hid (N3.out.then hz)
               clear hz)
            | fail)
          first|go_end0|refine bodyPost_ret (results_none rfl _ _ _) rfl ?_
          refine⟨rfl,?_⟩
          rw[HT.out]
          unfold eachP
          simp only[hcond,if_false,Bool.false_eq_true]
          rw[if_neg (by rw[ha];decide),if_pos hk]
          unfold inP wordsP
          simp only
          rw[HE.out]
          rw[if_pos hs9]
          exact N4.out)
      ·have hlu2:=isW_lt hb
       have hy:=LC.y (words_c u hBu.p) (t:=leafP 7 u) (by show (if _ then _ else _)=_;rw[if_pos hb])
       have HE:=Lib.hid ((LC.stepy words_c hBu.p (t:=leafP 7 u) (by show (if _ then _ else _)=_;rw[if_pos hb])).symm.trans HU.out)
       have YC1:=Lib.hid (fun W1 (h1:Mk g fv F (u) W1)=>isWord_my hF h1 hBu.p hb)
       have YC2:=Lib.hid (fun W1 (h1:Mk g fv F (u) W1)=>leaf7_m hF h1 (hBu.mono (by omega)) hlu2)
       go_wp2_with (first
         | (go_at_call 115
            with_reducible refine(YC1.out _ U0.out.m).mono ?_
            rintro e yw1 ⟨rfl,hz⟩
            have Y1:=Lib.hid (U0.out.then hz)
            clear hz)
         | (go_at_call 33
            with_reducible refine(YC2.out _ Y1.out.m).mono ?_
            rintro e yw2 ⟨rfl,hz⟩
            have Y2:=Lib.hid (Y1.out.then hz)
            clear hz)
         | fail)
       refine⟨⟨_,Nat.le_trans hqu (Nat.le_of_lt hy.2),hBu.gd hy.1,HE.out,Y2.out⟩,?_⟩
       rw[Y2.out.m.pOf,HP.out]
       have:=hy.2
       have:=hy.1.N
       omega
  ·have hlt2:=comes_lt ha (by decide)
   have hn2:=hB1.next hlt2 (by omega)
   have hg3:=gd_lines (F:=F) hn2.p
   have hB3:=hn2.gd hg3
   have hq3:q≤(linesP F (nextP (missP s))).p:=Nat.le_trans hq1 (Nat.le_trans (Nat.le_succ _) hg3.p)
   have AC1:=Lib.hid (fun W1 (h1:Mk g fv F (s) W1)=>missing_m hF h1 (hB.mono (by omega)))
   have AC2:=Lib.hid (fun W1 (h1:Mk g fv F (missP s) W1)=>take_my hF h1 hB1.p [59] (by decide) ha)
   have AC3:=Lib.hid (fun W1 (h1:Mk g fv F (nextP (missP s)) W1)=>lines_m hF h1 hn2.p)
   have AC4:=Lib.hid (fun W1 (h1:Mk g fv F (linesP F (nextP (missP s))) W1)=>do13_m hF hL HL h1 hq3 (hB3.mono (by omega)))
   go_wp2_with (first
     | (go_at_call 67
        with_reducible refine(AC1.out _ E0.out.m).mono ?_
        rintro e aw1 ⟨rfl,hz⟩
        have A1:=Lib.hid (E0.out.then hz)
        clear hz)
     | (go_at_call 30
        with_reducible refine(AC2.out _ A1.out.m).mono ?_
        rintro e aw2 ⟨rfl,hz⟩
        have A2:=Lib.hid (A1.out.then hz)
        clear hz)
     | (go_at_call 52
        with_reducible refine(AC3.out _ A2.out.m).mono ?_
        rintro e aw3 ⟨rfl,hz⟩
        have A3:=Lib.hid (A2.out.then hz)
        clear hz)
     | (go_at_call 142
        with_reducible refine(AC4.out _ A3.out.m).mono ?_
        rintro e aw4 ⟨rfl,hz⟩
        have A4:=Lib.hid (A3.out.then hz)
        clear hz)
     | fail)
   first|go_end0|refine bodyPost_ret (results_none rfl _ _ _) rfl ?_
   refine⟨rfl,?_⟩
   rw[HT.out]
   unfold eachP
   simp only[hcond,if_false,Bool.false_eq_true]
   rw[if_pos ha]
   exact A4.out
end Go.Proofs.YtlbfdbinaekjoaaGreatDoor
namespace Go.Proofs.YtlbfdbinaekjoaaGreatDoor
open Go.RowKit
set_option linter.unusedVariables false
set_option linter.unusedSimpArgs false
set_option maxRecDepth 100000
set_option maxHeartbeats 8000000 in
theorem each2_m {g:Nat} {fv:Value} {F:List Lf} {L:Ps→Ps} {q:Nat} {s:Ps} {W:World} (hF:FB F) (hL:GL F L) (HL:ListC g fv F L q) (h:Mk g fv F s W) (hq:q≤s.p) (hB:Bd F 0 s) (hw:isW F s.p=true) (hnm:nameT (tx F s.p)=true) :
    Calls Tryz.prog 108 #[.pointer (some ⟨g,0,none⟩)] W fun e w'=>e=.returned (.tuple #[])∧Mz g fv F W (eachP F L s) w':=by
  have hmix:Tryz.prog.follows .mixedOrders=true:=by kernel_rfl
  obtain⟨T,hT⟩:∃T,T=eachP F L s:=⟨_,rfl⟩
  rw[←hT]
  have HT:=Lib.hid hT
  clear hT
  have hn:=hF.n
  have hw0:=fun W1 (h1:Mk g fv F s W1)=>isWord_m hF h1 hB.p
  rw[hw] at hw0
  have HW:=Lib.hid hw0
  obtain⟨y0,y1,y3,y4,_⟩:=h.cells
  obtain⟨A,c,hfv⟩:=h.f.formm
  have H0:=Lib.hid (Mz.start h)
  have hlt:=isW_lt hw
  obtain⟨x,hx⟩:∃x,F[s.p]? = some x:=⟨_,List.getElem?_eq_getElem hlt⟩
  have htx:tx F s.p=x.tx:=by unfold tx;rw[hx]
  have htl:=hF.t x (List.mem_of_getElem? hx)
  have hf9:=h.f
  rw[hfv] at hf9
  obtain⟨g1,o1,hA9,z0,z1,z2,z3⟩:=lf_cells hf9 hx rfl
  rw[hfv,hA9] at y0
  have u1:(s.p:Int)<(F.length:Int):=by omega
  have u2:(0:Int)≤(s.p:Int):=by omega
  have hn9:=fun W=>isname_m x.tx W (by omega)
  rw[←htx] at hn9
  rw[hnm] at hn9
  rw[htx] at hn9
  have HN:=Lib.hid hn9
  clear hn9 htx hx htl z0 z2 z3 hf9 hA9
  clear h hw0 y3 y4 hfv
  have hcond:(isW F s.p&&nameT (tx F s.p))=true:=by rw[hw,hnm];rfl
  have hg1:=(gd_leaf (F:=F) (k:=7) hlt).1
  have hB1:=hB.gd hg1
  have hq1:=Nat.le_trans hq hg1.p
  go_enter Tryz.func108,Tryz.ntmps108
  go_wp2_with fail
  obtain⟨S0,hS0⟩:∃S0:World→Prop,S0=fun w'=>Below W.heap.size W w':=⟨_,rfl⟩
  refine wp_region_held (S:=S0) hmix ?_
  show wpAnyH _ _ _ _ _ _ _ _ W.drew
  have hS1:S0 W.drew:=by rw[hS0];exact(Below.refl _ W).drew
  have tc:∀(w':World),S0 w'→∀(a:Addr) (v:Value),W.cell? a=some v→w'.cell? a=some v:=fun w' h a v hc=>bkp (by rw[hS0] at h;exact h) hc
  refine wpAnyH_take (i:=0) (v:=.pointer (some ⟨g,0,none⟩)) rfl (by decide +kernel) (by decide +kernel) (by decide +kernel) (fun _ _ _ h=>h) (Or.inl ⟨by rfl,fun w' hS=>?_⟩) hS1 ?_
  ·go_simp
  try simp only[Act.put,List.getElem_toArray,List.getElem_cons_succ,List.getElem_cons_zero,List.setIfInBounds_toArray,List.set_cons_zero,List.set_cons_succ]
  refine wpAnyH_all (rs:=[1]) (by decide +kernel) (by simp) (allH1 rfl (by rfl) (fun K2 hK2=>?_) (allH0 (S:=S0)))
  go_simp
  go_at_call 115
  refine(HW.out _ (H0.out.m.next (Below.refl _ W).drew).1).mono ?_
  rintro e w1 ⟨rfl,hz⟩
  have HB:=Lib.hid ((Below.refl _ W).drew.trans hz)
  clear hz
  have hS2:S0 w1:=by rw[hS0];exact HB.out
  refine hK2 _ _ hS2 ?_
  clear hK2 K2
  try simp only[Act.put,List.getElem_toArray,List.getElem_cons_succ,List.getElem_cons_zero,List.setIfInBounds_toArray,List.set_cons_zero,List.set_cons_succ]
  refine wpAnyH_take (i:=2) (v:=.bool true) rfl (by decide +kernel) (by decide +kernel) (by decide +kernel) (fun _ _ _ h=>h) (Or.inl ⟨by rfl,fun w' hS=>?_⟩) hS2 ?_
  ·go_simp
  try simp only[Act.put,List.getElem_toArray,List.getElem_cons_succ,List.getElem_cons_zero,List.setIfInBounds_toArray,List.set_cons_zero,List.set_cons_succ]
  refine wpAnyH_take (i:=3) (v:=.pointer (some ⟨g,0,none⟩)) rfl (by decide +kernel) (by decide +kernel) (by decide +kernel) (fun _ _ _ h=>h) (Or.inl ⟨by rfl,fun w' hS=>?_⟩) hS2 ?_
  ·go_simp
  try simp only[Act.put,List.getElem_toArray,List.getElem_cons_succ,List.getElem_cons_zero,List.setIfInBounds_toArray,List.set_cons_zero,List.set_cons_succ]
  refine wpAnyH_take (i:=4) (v:=.pointer (some ⟨g,0,none⟩)) rfl (by decide +kernel) (by decide +kernel) (by decide +kernel) (fun _ _ _ h=>h) (Or.inl ⟨by rfl,fun w' hS=>?_⟩) hS2 ?_
  ·go_simp
  try simp only[Act.put,List.getElem_toArray,List.getElem_cons_succ,List.getElem_cons_zero,List.setIfInBounds_toArray,List.set_cons_zero,List.set_cons_succ]
  refine wpAnyH_take (i:=5) (v:=.pointer (some ⟨g,0,none⟩)) rfl (by decide +kernel) (by decide +kernel) (by decide +kernel) (fun _ _ _ h=>h) (Or.inl ⟨by rfl,fun w' hS=>?_⟩) hS2 ?_
  ·go_simp
  try simp only[Act.put,List.getElem_toArray,List.getElem_cons_succ,List.getElem_cons_zero,List.setIfInBounds_toArray,List.set_cons_zero,List.set_cons_succ]
  refine wpAnyH_take (i:=6) (v:=.slice (some ⟨g1,o1,none⟩) F.length c) rfl (by decide +kernel) (by decide +kernel) (by decide +kernel) (fun _ _ _ h=>h) (Or.inl ⟨by rfl,fun w' hS=>?_⟩) hS2 ?_
  ·have c0:=tc w' hS _ _ y0;go_simp
  try simp only[Act.put,List.getElem_toArray,List.getElem_cons_succ,List.getElem_cons_zero,List.setIfInBounds_toArray,List.set_cons_zero,List.set_cons_succ]
  refine wpAnyH_take (i:=7) (v:=.pointer (some ⟨g,0,none⟩)) rfl (by decide +kernel) (by decide +kernel) (by decide +kernel) (fun _ _ _ h=>h) (Or.inl ⟨by rfl,fun w' hS=>?_⟩) hS2 ?_
  ·go_simp
  try simp only[Act.put,List.getElem_toArray,List.getElem_cons_succ,List.getElem_cons_zero,List.setIfInBounds_toArray,List.set_cons_zero,List.set_cons_succ]
  refine wpAnyH_take (i:=8) (v:=.pointer (some ⟨g,0,none⟩)) rfl (by decide +kernel) (by decide +kernel) (by decide +kernel) (fun _ _ _ h=>h) (Or.inl ⟨by rfl,fun w' hS=>?_⟩) hS2 ?_
  ·go_simp
  try simp only[Act.put,List.getElem_toArray,List.getElem_cons_succ,List.getElem_cons_zero,List.setIfInBounds_toArray,List.set_cons_zero,List.set_cons_succ]
  refine wpAnyH_take (i:=9) (v:=.pointer (some ⟨g,1,none⟩)) rfl (by decide +kernel) (by decide +kernel) (by decide +kernel) (fun _ _ _ h=>h) (Or.inl ⟨by rfl,fun w' hS=>?_⟩) hS2 ?_
  ·go_simp
  try simp only[Act.put,List.getElem_toArray,List.getElem_cons_succ,List.getElem_cons_zero,List.setIfInBounds_toArray,List.set_cons_zero,List.set_cons_succ]
  refine wpAnyH_take (i:=10) (v:=.int .i64 (s.p:Int)) rfl (by decide +kernel) (by decide +kernel) (by decide +kernel) (fun _ _ _ h=>h) (Or.inl ⟨by rfl,fun w' hS=>?_⟩) hS2 ?_
  ·have c0:=tc w' hS _ _ y1;go_simp
  try simp only[Act.put,List.getElem_toArray,List.getElem_cons_succ,List.getElem_cons_zero,List.setIfInBounds_toArray,List.set_cons_zero,List.set_cons_succ]
  refine wpAnyH_take (i:=11) (v:=.pointer (some ⟨g1,o1+s.p*4,none⟩)) rfl (by decide +kernel) (by decide +kernel) (by decide +kernel) (fun _ _ _ h=>h) (Or.inl ⟨by rfl,fun w' hS=>?_⟩) hS2 ?_
  ·go_simp
  try simp only[Act.put,List.getElem_toArray,List.getElem_cons_succ,List.getElem_cons_zero,List.setIfInBounds_toArray,List.set_cons_zero,List.set_cons_succ]
  refine wpAnyH_take (i:=12) (v:=.pointer (some ⟨g1,o1+s.p*4+1,none⟩)) rfl (by decide +kernel) (by decide +kernel) (by decide +kernel) (fun _ _ _ h=>h) (Or.inl ⟨by rfl,fun w' hS=>?_⟩) hS2 ?_
  ·go_simp
  try simp only[Act.put,List.getElem_toArray,List.getElem_cons_succ,List.getElem_cons_zero,List.setIfInBounds_toArray,List.set_cons_zero,List.set_cons_succ]
  refine wpAnyH_take (i:=13) (v:=.string ⟨x.tx.toArray⟩) rfl (by decide +kernel) (by decide +kernel) (by decide +kernel) (fun _ _ _ h=>h) (Or.inl ⟨by rfl,fun w' hS=>?_⟩) hS2 ?_
  ·have c0:=tc w' hS _ _ z1;go_simp
  try simp only[Act.put,List.getElem_toArray,List.getElem_cons_succ,List.getElem_cons_zero,List.setIfInBounds_toArray,List.set_cons_zero,List.set_cons_succ]
  refine wpAnyH_all (rs:=[14]) (by decide +kernel) (by simp) (allH1 rfl (by rfl) (fun K2 hK2=>?_) (allH0 (S:=S0)))
  go_simp
  go_at_call 112
  refine(HN.out _).mono ?_
  rintro e w2 ⟨rfl,rfl⟩
  have hS3:S0 w2:=by rw[hS0];exact HB.out
  refine hK2 _ _ hS3 ?_
  clear hK2 K2
  try simp only[Act.put,List.getElem_toArray,List.getElem_cons_succ,List.getElem_cons_zero,List.setIfInBounds_toArray,List.set_cons_zero,List.set_cons_succ]
  refine wpAnyH_take (i:=15) (v:=.bool true) rfl (by decide +kernel) (by decide +kernel) (by decide +kernel) (fun _ _ _ h=>h) (Or.inl ⟨by rfl,fun w' hS=>?_⟩) hS3 ?_
  ·go_simp
  try simp only[Act.put,List.getElem_toArray,List.getElem_cons_succ,List.getElem_cons_zero,List.setIfInBounds_toArray,List.set_cons_zero,List.set_cons_succ]
  refine wpAnyH_done (by decide +kernel) ?_ _
  have E0:=Lib.hid (H0.out.next HB.out)
  clear hS0 hS1 hS2 tc hS3
  cases ha:comes F [59] (leafP 7 s)
  ·have hg3:=gd_lines (F:=F) hB1.p
   have hB3:=hB1.gd hg3
   have hq3:=Nat.le_trans hq1 hg3.p
   cases hk:comes F [107] (linesP F (leafP 7 s))
   ·have AC1:=Lib.hid (fun W1 (h1:Mk g fv F (s) W1)=>leaf7_m hF h1 (hB.mono (by omega)) hlt)
    have AC2:=Lib.hid (fun W1 (h1:Mk g fv F (leafP 7 s) W1)=>take_mn hF h1 hB1.p [59] (by decide) ha)
    have AC3:=Lib.hid (fun W1 (h1:Mk g fv F (leafP 7 s) W1)=>lines_m hF h1 hB1.p)
    have AC4:=Lib.hid (fun W1 (h1:Mk g fv F (linesP F (leafP 7 s)) W1)=>take_mn hF h1 hB3.p [107] (by decide) hk)
    have AC5:=Lib.hid (fun W1 (h1:Mk g fv F (linesP F (leafP 7 s)) W1)=>do13_m hF hL HL h1 hq3 (hB3.mono (by omega)))
    go_wp2_with (first
      | (go_at_call 33
         with_reducible refine(AC1.out _ E0.out.m).mono ?_
         rintro e aw1 ⟨rfl,hz⟩
         have A1:=Lib.hid (E0.out.then hz)
         clear hz)
      | (go_at_call 30
         with_reducible refine(AC2.out _ A1.out.m).mono ?_
         rintro e aw2 ⟨rfl,hz⟩
         have A2:=Lib.hid (A1.out.then hz)
         clear hz)
      | (go_at_call 52
         with_reducible refine(AC3.out _ A2.out.m).mono ?_
         rintro e aw3 ⟨rfl,hz⟩
         have A3:=Lib.hid (A2.out.then hz)
         clear hz)
      | (go_at_call 30
         with_reducible refine(AC4.out _ A3.out.m).mono ?_
         rintro e aw4 ⟨rfl,hz⟩
         have A4:=Lib.hid (A3.out.then hz)
         clear hz)
      | (go_at_call 142
         with_reducible refine(AC5.out _ A4.out.m).mono ?_
         rintro e aw5 ⟨rfl,hz⟩
         have A5:=Lib.hid (A4.out.then hz)
         clear hz)
      | fail)
    first|go_end0|refine bodyPost_ret (results_none rfl _ _ _) rfl ?_
    refine⟨rfl,?_⟩
    rw[HT.out]
    unfold eachP
    simp only[hcond,if_true]
    rw[if_neg (by rw[ha];decide),if_neg (by rw[hk];decide)]
    exact A5.out
   ·have hlt3:=comes_lt hk (by decide)
    have hn4:=hB3.next hlt3 (by omega)
    have hq4:q≤(nextP (linesP F (leafP 7 s))).p:=Nat.le_trans hq3 (Nat.le_succ _)
    have AC1:=Lib.hid (fun W1 (h1:Mk g fv F (s) W1)=>leaf7_m hF h1 (hB.mono (by omega)) hlt)
    have AC2:=Lib.hid (fun W1 (h1:Mk g fv F (leafP 7 s) W1)=>take_mn hF h1 hB1.p [59] (by decide) ha)
    have AC3:=Lib.hid (fun W1 (h1:Mk g fv F (leafP 7 s) W1)=>lines_m hF h1 hB1.p)
    have AC4:=Lib.hid (fun W1 (h1:Mk g fv F (linesP F (leafP 7 s)) W1)=>take_my hF h1 hB3.p [107] (by decide) hk)
    go_wp2_with (first
      | (go_at_call 33
         with_reducible refine(AC1.out _ E0.out.m).mono ?_
         rintro e aw1 ⟨rfl,hz⟩
         have A1:=Lib.hid (E0.out.then hz)
         clear hz)
      | (go_at_call 30
         with_reducible refine(AC2.out _ A1.out.m).mono ?_
         rintro e aw2 ⟨rfl,hz⟩
         have A2:=Lib.hid (A1.out.then hz)
         clear hz)
      | (go_at_call 52
         with_reducible refine(AC3.out _ A2.out.m).mono ?_
         rintro e aw3 ⟨rfl,hz⟩
         have A3:=Lib.hid (A2.out.then hz)
         clear hz)
      | (go_at_call 30
         with_reducible refine(AC4.out _ A3.out.m).mono ?_
         rintro e aw4 ⟨rfl,hz⟩
         have A4:=Lib.hid (A3.out.then hz)
         clear hz)
      | fail)
    go_loopw [] (fun wr=>∃u:Ps,q≤u.p∧Bd F 0 u∧(loopP F.length (fun s=>if isW F s.p=true then (leafP 7 s,true) else (s,false))) u=(loopP F.length (fun s=>if isW F s.p=true then (leafP 7 s,true) else (s,false))) (nextP (linesP F (leafP 7 s)))∧Mz g fv F W u wr) (fun wr=>F.length-pOf g wr)
    case atStart=>exact⟨_,hq4,hn4,rfl,A4.out⟩
    case round=>
      obtain⟨u,hqu,hBu,hlu,hz⟩:=hrel
      have U0:=Lib.hid hz
      have HU:=Lib.hid hlu
      have hup:=hz.m.pOf
      have HP:=Lib.hid hup
      clear hz hlu hup
      cases hb:isW F u.p
      ·have HE:=Lib.hid (HU.out.symm.trans (LC.stepn words_c hBu.p (t:=u) (by show (if _ then _ else _)=_;rw[if_neg (by rw[hb];decide)])))
       cases hs9:comes F [59] u
       ·have hg7:=gd_lines (F:=F) hBu.p
        have hB7:=hBu.gd hg7
        have hq7:=Nat.le_trans hqu hg7.p
        cases hy9:comes F [110] u
        ·have hg8:=gd_miss (F:=F) hB7.p
         have hB8:=hB7.gd hg8
         have hq8:=Nat.le_trans hq7 hg8.p
         have e9:=Lib.hid (lines_no hBu.p hy9)
         have NC1:=Lib.hid (fun W1 (h1:Mk g fv F (u) W1)=>isWord_mn hF h1 hBu.p hb)
         have NC2:=Lib.hid (fun W1 (h1:Mk g fv F (u) W1)=>take_mn hF h1 hBu.p [59] (by decide) hs9)
         have NC3:=Lib.hid (fun W1 (h1:Mk g fv F (u) W1)=>lines_mn hF h1 hBu.p hy9)
         have NC4:=Lib.hid (fun W1 (h1:Mk g fv F (linesP F u) W1)=>missing_m hF h1 (hB7.mono (by omega)))
         have NC5:=Lib.hid (fun W1 (h1:Mk g fv F (missP (linesP F u)) W1)=>do13_m hF hL HL h1 hq8 (hB8.mono (by omega)))
         go_wp2_with (first
           | (go_at_call 115
              with_reducible refine(NC1.out _ U0.out.m).mono ?_
              rintro e nw1 ⟨rfl,hz⟩
              have N1:=Lib.hid (U0.out.then hz)
              clear hz)
           | (go_at_call 30
              with_reducible refine(NC2.out _ N1.out.m).mono ?_
              rintro e nw2 ⟨rfl,hz⟩
              have N2:=Lib.hid (N1.out.then hz)
              clear hz)
           | (go_at_call 52
              with_reducible refine(NC3.out _ N2.out.m).mono ?_
              rintro e nw3 ⟨rfl,hz⟩
              have N3:=Lib.hid (N2.out.then hz)
              clear hz)
           | (go_at_call 67
              with_reducible refine(NC4.out _ N3.out.m).mono ?_
              rintro e nw4 ⟨rfl,hz⟩
              have N4:=Lib.hid (N3.out.then hz)
              clear hz)
           | (go_at_call 142
              with_reducible refine(NC5.out _ N4.out.m).mono ?_
              rintro e nw5 ⟨rfl,hz⟩
              have N5:=Lib.hid (N4.out.then hz)
              clear hz)
           | fail)
         first|go_end0|refine bodyPost_ret (results_none rfl _ _ _) rfl ?_
         refine⟨rfl,?_⟩
         rw[HT.out]
         unfold eachP
         simp only[hcond,if_true]
         rw[if_neg (by rw[ha];decide),if_pos hk]
         unfold inP wordsP
         simp only
         rw[HE.out]
         rw[if_neg (by rw[hs9];decide),if_neg (by rw[hy9];decide)]
         rw[←show missP (linesP F u)=missP u by rw[e9.out]]
         exact N5.out
        ·have NC1:=Lib.hid (fun W1 (h1:Mk g fv F (u) W1)=>isWord_mn hF h1 hBu.p hb)
         have NC2:=Lib.hid (fun W1 (h1:Mk g fv F (u) W1)=>take_mn hF h1 hBu.p [59] (by decide) hs9)
         have NC3:=Lib.hid (fun W1 (h1:Mk g fv F (u) W1)=>lines_my hF h1 hBu.p hy9)
         have NC4:=Lib.hid (fun W1 (h1:Mk g fv F (linesP F u) W1)=>do13_m hF hL HL h1 hq7 (hB7.mono (by omega)))
         go_wp2_with (first
           | (go_at_call 115
              with_reducible refine(NC1.out _ U0.out.m).mono ?_
              rintro e nw1 ⟨rfl,hz⟩
              have N1:=Lib.hid (U0.out.then hz)
              clear hz)
           | (go_at_call 30
              with_reducible refine(NC2.out _ N1.out.m).mono ?_
              rintro e nw2 ⟨rfl,hz⟩
              have N2:=Lib.hid (N1.out.then hz)
              clear hz)
           | (go_at_call 52
              with_reducible refine(NC3.out _ N2.out.m).mono ?_
              rintro e nw3 ⟨rfl,hz⟩
              have N3:=Lib.hid (N2.out.then hz)
              clear hz)
           | (go_at_call 142
              with_reducible refine(NC4.out _ N3.out.m).mono ?_
              rintro e nw4 ⟨rfl,hz⟩
              have N4:=Lib.hid (N3.out.then hz)
              clear hz)
           | fail)
         first|go_end0|refine bodyPost_ret (results_none rfl _ _ _) rfl ?_
         refine⟨rfl,?_⟩
         rw[HT.out]
         unfold eachP
         simp only[hcond,if_true]
         rw[if_neg (by rw[ha];decide),if_pos hk]
         unfold inP wordsP
         simp only
         rw[HE.out]
         rw[if_neg (by rw[hs9];decide),if_pos hy9]
         exact N4.out
       ·have hlt5:=comes_lt hs9 (by decide)
        have hn6:=hBu.next hlt5 (by omega)
        have hg7:=gd_lines (F:=F) hn6.p
        have hB7:=hn6.gd hg7
        have hq7:q≤(linesP F (nextP u)).p:=Nat.le_trans hqu (Nat.le_trans (Nat.le_succ _) hg7.p)
        cases hy9:comes F [110] (nextP u)
        have NC1:=Lib.hid (fun W1 (h1:Mk g fv F (u) W1)=>isWord_mn hF h1 hBu.p hb)
        have NC2:=Lib.hid (fun W1 (h1:Mk g fv F (u) W1)=>take_my hF h1 hBu.p [59] (by decide) hs9)
        have NC3:=Lib.hid (fun W1 (h1:Mk g fv F (nextP u) W1)=>lines_mn hF h1 hn6.p hy9)
        rotate_left
        have NC1:=Lib.hid (fun W1 (h1:Mk g fv F (u) W1)=>isWord_mn hF h1 hBu.p hb)
        have NC2:=Lib.hid (fun W1 (h1:Mk g fv F (u) W1)=>take_my hF h1 hBu.p [59] (by decide) hs9)
        have NC3:=Lib.hid (fun W1 (h1:Mk g fv F (nextP u) W1)=>lines_my hF h1 hn6.p hy9)
        rotate_left
        all_goals (
          have NC4:=Lib.hid (fun W1 (h1:Mk g fv F (linesP F (nextP u)) W1)=>do13_m hF hL HL h1 hq7 (hB7.mono (by omega)))
          go_wp2_with (first
            | (go_at_call 115
               with_reducible refine(NC1.out _ U0.out.m).mono ?_
               rintro e nw1 ⟨rfl,hz⟩
               have N1:=Lib.hid (U0.out.then hz)
               clear hz)
            | (go_at_call 30
               with_reducible refine(NC2.out _ N1.out.m).mono ?_
               rintro e nw2 ⟨rfl,hz⟩
               have N2:=Lib.hid (N1.out.then hz)
               clear hz)
            | (go_at_call 52
               with_reducible refine(NC3.out _ N2.out.m).mono ?_
               rintro e nw3 ⟨rfl,hz⟩
               have N3:=Lib.hid (N2.out.then hz)
               clear hz)
            | (go_at_call 142
               with_reducible refine(NC4.out _ N3.out.m).mono ?_
               rintro e nw4 ⟨rfl,hz⟩
               have N4:=Lib.hid (N3.out.then hz)
               clear hz)
            | fail)
          first|go_end0|refine bodyPost_ret (results_none rfl _ _ _) rfl ?_
          refine⟨rfl,?_⟩
          rw[HT.out]
          unfold eachP
          simp only[hcond,if_true]
          rw[if_neg (by rw[ha];decide),if_pos hk]
          unfold inP wordsP
          simp only
          rw[HE.out]
          rw[if_pos hs9]
          exact N4.out)
      ·have hlu2:=isW_lt hb
       have hy:=LC.y (words_c u hBu.p) (t:=leafP 7 u) (by show (if _ then _ else _)=_;rw[if_pos hb])
       have HE:=Lib.hid ((LC.stepy words_c hBu.p (t:=leafP 7 u) (by show (if _ then _ else _)=_;rw[if_pos hb])).symm.trans HU.out)
       have YC1:=Lib.hid (fun W1 (h1:Mk g fv F (u) W1)=>isWord_my hF h1 hBu.p hb)
       have YC2:=Lib.hid (fun W1 (h1:Mk g fv F (u) W1)=>leaf7_m hF h1 (hBu.mono (by omega)) hlu2)
       go_wp2_with (first
         | (go_at_call 115
            with_reducible refine(YC1.out _ U0.out.m).mono ?_
            rintro e yw1 ⟨rfl,hz⟩
            have Y1:=Lib.hid (U0.out.then hz)
            clear hz)
         | (go_at_call 33
            with_reducible refine(YC2.out _ Y1.out.m).mono ?_
            rintro e yw2 ⟨rfl,hz⟩
            have Y2:=Lib.hid (Y1.out.then hz)
            clear hz)
         | fail)
       refine⟨⟨_,Nat.le_trans hqu (Nat.le_of_lt hy.2),hBu.gd hy.1,HE.out,Y2.out⟩,?_⟩
       rw[Y2.out.m.pOf,HP.out]
       have:=hy.2
       have:=hy.1.N
       omega
  ·have hlt2:=comes_lt ha (by decide)
   have hn2:=hB1.next hlt2 (by omega)
   have hg3:=gd_lines (F:=F) hn2.p
   have hB3:=hn2.gd hg3
   have hq3:q≤(linesP F (nextP (leafP 7 s))).p:=Nat.le_trans hq1 (Nat.le_trans (Nat.le_succ _) hg3.p)
   have AC1:=Lib.hid (fun W1 (h1:Mk g fv F (s) W1)=>leaf7_m hF h1 (hB.mono (by omega)) hlt)
   have AC2:=Lib.hid (fun W1 (h1:Mk g fv F (leafP 7 s) W1)=>take_my hF h1 hB1.p [59] (by decide) ha)
   have AC3:=Lib.hid (fun W1 (h1:Mk g fv F (nextP (leafP 7 s)) W1)=>lines_m hF h1 hn2.p)
   have AC4:=Lib.hid (fun W1 (h1:Mk g fv F (linesP F (nextP (leafP 7 s))) W1)=>do13_m hF hL HL h1 hq3 (hB3.mono (by omega)))
   go_wp2_with (first
     | (go_at_call 33
        with_reducible refine(AC1.out _ E0.out.m).mono ?_
        rintro e aw1 ⟨rfl,hz⟩
        have A1:=Lib.hid (E0.out.then hz)
        clear hz)
     | (go_at_call 30
        with_reducible refine(AC2.out _ A1.out.m).mono ?_
        rintro e aw2 ⟨rfl,hz⟩
        have A2:=Lib.hid (A1.out.then hz)
        clear hz)
     | (go_at_call 52
        with_reducible refine(AC3.out _ A2.out.m).mono ?_
        rintro e aw3 ⟨rfl,hz⟩
        have A3:=Lib.hid (A2.out.then hz)
        clear hz)
     | (go_at_call 142
        with_reducible refine(AC4.out _ A3.out.m).mono ?_
        rintro e aw4 ⟨rfl,hz⟩
        have A4:=Lib.hid (A3.out.then hz)
        clear hz)
     | fail)
   first|go_end0|refine bodyPost_ret (results_none rfl _ _ _) rfl ?_
   refine⟨rfl,?_⟩
   rw[HT.out]
   unfold eachP
   simp only[hcond,if_true]
   rw[if_pos ha]
   exact A4.out
end Go.Proofs.YtlbfdbinaekjoaaGreatDoor
