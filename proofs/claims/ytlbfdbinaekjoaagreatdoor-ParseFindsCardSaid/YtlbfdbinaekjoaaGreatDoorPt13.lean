/- The parser: bodies, braces, loops. -/
import Derived.Test.YtlbfdbinaekjoaaGreatDoorPm13
namespace Go.Proofs.YtlbfdbinaekjoaaGreatDoor
open Go.RowKit
set_option linter.unusedVariables false
set_option linter.unusedSimpArgs false
set_option maxRecDepth 100000
def ListC (g:Nat) (fv:Value) (F:List Lf) (L:Ps→Ps) (q:Nat):Prop:=∀(s:Ps) (W:World),q≤s.p→Bd F 20 s→Mk g fv F s W →
  Calls Tryz.prog 32 #[.pointer (some ⟨g,0,none⟩)] W fun e w'=>e=.returned (.tuple #[])∧Mz g fv F W (L s) w'
theorem nodeL_m {g:Nat} {fv:Value} {F:List Lf} {L:Ps→Ps} {q:Nat} {s:Ps} {W:World} (hF:FB F) (hL:GL F L) (HL:ListC g fv F L q) (h:Mk g fv F s W) (hq:q≤s.p) (hB:Bd F 19 s) :
    Calls Tryz.prog 14 #[.pointer (some ⟨g,0,none⟩),.int .i64 2,.func (.func 32) #[.pointer (some ⟨g,0,none⟩)] #[]] W fun e w'=>e=.returned (.tuple #[])∧Mz g fv F W (nodeP 2 L s) w':=by
  have hi:=hB.inn 2
  have hg:=hL (inN 2 s) hi.p
  have hn:=hF.n
  have h1:=hg.l
  have h2:=hg.N
  rw[inN_len] at h1
  exact node_v (t:=L (inN 2 s)) 2 _ h (hB.l5 hF (by omega)) (by omega) (enters_of Tryz.func32 (by kernel_rfl) rfl) (fun W1 h1=>HL _ W1 hq hi h1.m) (by omega) (by omega)
set_option maxHeartbeats 1000000 in
theorem body_m {g:Nat} {fv:Value} {F:List Lf} {L:Ps→Ps} {q:Nat} {s:Ps} {W:World} (hF:FB F) (hL:GL F L) (HL:ListC g fv F L q) (h:Mk g fv F s W) (hq:q≤s.p) (hB:Bd F 14 s) :
    Calls Tryz.prog 141 #[.pointer (some ⟨g,0,none⟩)] W fun e w'=>e=.returned (.tuple #[])∧Mz g fv F W (bodyP F L s) w':=by
  have hB1:=hB.gd (gd_lines hB.p)
  have hq1:q≤(linesP F s).p:=Nat.le_trans hq (gd_lines (F:=F) hB.p).p
  unfold bodyP
  cases hb:pipeB F (linesP F s)
  ·have HC1:=Lib.hid (fun W1 (h1:Mk g fv F (s) W1)=>lines_m hF h1 hB.p)
   have HC2:=Lib.hid (fun W1 (h1:Mk g fv F (linesP F s) W1)=>pipes_mn hF h1 hB1.p hb)
   have HC3:=Lib.hid (fun W1 (h1:Mk g fv F (linesP F s) W1)=>missing_m hF h1 (hB1.mono (by omega)))
   have H0:=Lib.hid (Mz.start h)
   clear h
   go_enter Tryz.func141,Tryz.ntmps141
   go_wp2_with (first
     | (go_at_call 52
        with_reducible refine(HC1.out _ H0.out.m).mono ?_
        rintro e hw1 ⟨rfl,hz⟩
        have H1:=Lib.hid (H0.out.then hz)
        clear hz)
     | (go_at_call 31
        with_reducible refine(HC2.out _ H1.out.m).mono ?_
        rintro e hw2 ⟨rfl,hz⟩
        have H2:=Lib.hid (H1.out.then hz)
        clear hz)
     | (go_at_call 67
        with_reducible refine(HC3.out _ H2.out.m).mono ?_
        rintro e hw3 ⟨rfl,hz⟩
        have H3:=Lib.hid (H2.out.then hz)
        clear hz)
     | fail)
   first|go_end0|refine bodyPost_ret (results_none rfl _ _ _) rfl ?_
   exact⟨rfl,H3.out⟩
  ·have HC1:=Lib.hid (fun W1 (h1:Mk g fv F (s) W1)=>lines_m hF h1 hB.p)
   have HC2:=Lib.hid (fun W1 (h1:Mk g fv F (linesP F s) W1)=>pipes_my hF h1 hB1.p hb)
   have HC3:=Lib.hid (fun W1 (h1:Mk g fv F (linesP F s) W1)=>nodeL_m hF hL HL h1 hq1 (hB1.mono (by omega)))
   have H0:=Lib.hid (Mz.start h)
   clear h
   go_enter Tryz.func141,Tryz.ntmps141
   go_wp2_with (first
     | (go_at_call 52
        with_reducible refine(HC1.out _ H0.out.m).mono ?_
        rintro e hw1 ⟨rfl,hz⟩
        have H1:=Lib.hid (H0.out.then hz)
        clear hz)
     | (go_at_call 31
        with_reducible refine(HC2.out _ H1.out.m).mono ?_
        rintro e hw2 ⟨rfl,hz⟩
        have H2:=Lib.hid (H1.out.then hz)
        clear hz)
     | (go_at_call 14
        with_reducible refine(HC3.out _ H2.out.m).mono ?_
        rintro e hw3 ⟨rfl,hz⟩
        have H3:=Lib.hid (H2.out.then hz)
        clear hz)
     | fail)
   first|go_end0|refine bodyPost_ret (results_none rfl _ _ _) rfl ?_
   exact⟨rfl,H3.out⟩
set_option maxHeartbeats 1000000 in
theorem brace_m {g:Nat} {fv:Value} {F:List Lf} {L:Ps→Ps} {q:Nat} {s:Ps} {W:World} (hF:FB F) (hL:GL F L) (HL:ListC g fv F L q) (h:Mk g fv F s W) (hq:q≤s.p) (hB:Bd F 0 s) :
    Calls Tryz.prog 104 #[.pointer (some ⟨g,0,none⟩)] W fun e w'=>e=.returned (.tuple #[])∧Mz g fv F W (wantP F 125 (bodyP F L s)) w':=by
  have hB1:=hB.gd (gd_body hL hB.p)
  have HC1:=Lib.hid (fun W1 (h1:Mk g fv F (s) W1)=>body_m hF hL HL h1 hq (hB.mono (by omega)))
  have HC2:=Lib.hid (fun W1 (h1:Mk g fv F (bodyP F L s) W1)=>want_m hF h1 (hB1.mono (by omega)) 125 (by decide))
  have H0:=Lib.hid (Mz.start h)
  clear h
  go_enter Tryz.func104,Tryz.ntmps104
  go_wp2_with (first
    | (go_at_call 141
       with_reducible refine(HC1.out _ H0.out.m).mono ?_
       rintro e hw1 ⟨rfl,hz⟩
       have H1:=Lib.hid (H0.out.then hz)
       clear hz)
    | (go_at_call 114
       with_reducible refine(HC2.out _ H1.out.m).mono ?_
       rintro e hw2 ⟨rfl,hz⟩
       have H2:=Lib.hid (H1.out.then hz)
       clear hz)
    | fail)
  first|go_end0|refine bodyPost_ret (results_none rfl _ _ _) rfl ?_
  exact⟨rfl,H2.out⟩
set_option maxHeartbeats 1000000 in
theorem subshell_m {g:Nat} {fv:Value} {F:List Lf} {L:Ps→Ps} {q:Nat} {s:Ps} {W:World} (hF:FB F) (hL:GL F L) (HL:ListC g fv F L q) (h:Mk g fv F s W) (hq:q≤s.p) (hB:Bd F 0 s) :
    Calls Tryz.prog 105 #[.pointer (some ⟨g,0,none⟩)] W fun e w'=>e=.returned (.tuple #[])∧Mz g fv F W (wantP F 41 (bodyP F L s)) w':=by
  have hB1:=hB.gd (gd_body hL hB.p)
  have HC1:=Lib.hid (fun W1 (h1:Mk g fv F (s) W1)=>body_m hF hL HL h1 hq (hB.mono (by omega)))
  have HC2:=Lib.hid (fun W1 (h1:Mk g fv F (bodyP F L s) W1)=>want_m hF h1 (hB1.mono (by omega)) 41 (by decide))
  have H0:=Lib.hid (Mz.start h)
  clear h
  go_enter Tryz.func105,Tryz.ntmps105
  go_wp2_with (first
    | (go_at_call 141
       with_reducible refine(HC1.out _ H0.out.m).mono ?_
       rintro e hw1 ⟨rfl,hz⟩
       have H1:=Lib.hid (H0.out.then hz)
       clear hz)
    | (go_at_call 114
       with_reducible refine(HC2.out _ H1.out.m).mono ?_
       rintro e hw2 ⟨rfl,hz⟩
       have H2:=Lib.hid (H1.out.then hz)
       clear hz)
    | fail)
  first|go_end0|refine bodyPost_ret (results_none rfl _ _ _) rfl ?_
  exact⟨rfl,H2.out⟩
set_option maxHeartbeats 1000000 in
theorem do13_m {g:Nat} {fv:Value} {F:List Lf} {L:Ps→Ps} {q:Nat} {s:Ps} {W:World} (hF:FB F) (hL:GL F L) (HL:ListC g fv F L q) (h:Mk g fv F s W) (hq:q≤s.p) (hB:Bd F 9 s) :
    Calls Tryz.prog 142 #[.pointer (some ⟨g,0,none⟩)] W fun e w'=>e=.returned (.tuple #[])∧Mz g fv F W (doP F L s) w':=by
  have hg1:=gd_want (F:=F) (c:=100) (by decide) hB.p
  have hB1:=hB.gd hg1
  have hq1:=Nat.le_trans hq hg1.p
  have hB2:=hB1.gd (gd_body hL hB1.p)
  have HC1:=Lib.hid (fun W1 (h1:Mk g fv F (s) W1)=>want_m hF h1 (hB.mono (by omega)) 100 (by decide))
  have HC2:=Lib.hid (fun W1 (h1:Mk g fv F (wantP F 100 s) W1)=>body_m hF hL HL h1 hq1 (hB1.mono (by omega)))
  have HC3:=Lib.hid (fun W1 (h1:Mk g fv F (bodyP F L (wantP F 100 s)) W1)=>want_m hF h1 (hB2.mono (by omega)) 103 (by decide))
  have H0:=Lib.hid (Mz.start h)
  clear h
  go_enter Tryz.func142,Tryz.ntmps142
  go_wp2_with (first
    | (go_at_call 114
       with_reducible refine(HC1.out _ H0.out.m).mono ?_
       rintro e hw1 ⟨rfl,hz⟩
       have H1:=Lib.hid (H0.out.then hz)
       clear hz)
    | (go_at_call 141
       with_reducible refine(HC2.out _ H1.out.m).mono ?_
       rintro e hw2 ⟨rfl,hz⟩
       have H2:=Lib.hid (H1.out.then hz)
       clear hz)
    | (go_at_call 114
       with_reducible refine(HC3.out _ H2.out.m).mono ?_
       rintro e hw3 ⟨rfl,hz⟩
       have H3:=Lib.hid (H2.out.then hz)
       clear hz)
    | fail)
  first|go_end0|refine bodyPost_ret (results_none rfl _ _ _) rfl ?_
  exact⟨rfl,H3.out⟩
set_option maxHeartbeats 1000000 in
theorem loop_m {g:Nat} {fv:Value} {F:List Lf} {L:Ps→Ps} {q:Nat} {s:Ps} {W:World} (hF:FB F) (hL:GL F L) (HL:ListC g fv F L q) (h:Mk g fv F s W) (hq:q≤s.p) (hB:Bd F 0 s) :
    Calls Tryz.prog 107 #[.pointer (some ⟨g,0,none⟩)] W fun e w'=>e=.returned (.tuple #[])∧Mz g fv F W (doP F L (bodyP F L s)) w':=by
  have hg1:=gd_body hL hB.p
  have hB1:=hB.gd hg1
  have hq1:=Nat.le_trans hq hg1.p
  have HC1:=Lib.hid (fun W1 (h1:Mk g fv F (s) W1)=>body_m hF hL HL h1 hq (hB.mono (by omega)))
  have HC2:=Lib.hid (fun W1 (h1:Mk g fv F (bodyP F L s) W1)=>do13_m hF hL HL h1 hq1 (hB1.mono (by omega)))
  have H0:=Lib.hid (Mz.start h)
  clear h
  go_enter Tryz.func107,Tryz.ntmps107
  go_wp2_with (first
    | (go_at_call 141
       with_reducible refine(HC1.out _ H0.out.m).mono ?_
       rintro e hw1 ⟨rfl,hz⟩
       have H1:=Lib.hid (H0.out.then hz)
       clear hz)
    | (go_at_call 142
       with_reducible refine(HC2.out _ H1.out.m).mono ?_
       rintro e hw2 ⟨rfl,hz⟩
       have H2:=Lib.hid (H1.out.then hz)
       clear hz)
    | fail)
  first|go_end0|refine bodyPost_ret (results_none rfl _ _ _) rfl ?_
  exact⟨rfl,H2.out⟩
end Go.Proofs.YtlbfdbinaekjoaaGreatDoor
namespace Go.Proofs.YtlbfdbinaekjoaaGreatDoor
open Go.RowKit
set_option linter.unusedVariables false
set_option linter.unusedSimpArgs false
set_option maxRecDepth 100000
theorem LC.y {N B:Nat} {s t:Ps} {r:Ps×Bool} (h:LC N B s r) (e:r=(t,true)):Gd N 0 s t∧s.p<t.p:=by rw[e] at h;exact h.1 rfl
theorem LC.stepy {N B:Nat} {c:Ps→Ps×Bool} {s t:Ps} (h:∀s,s.p≤N→LC N B s (c s)) (hs:s.p≤N) (e:c s=(t,true)):loopP N c s=loopP N c t:=by
  have h1:=LC.eq h s hs
  simp only[e,if_true] at h1
  exact h1
theorem LC.stepn {N B:Nat} {c:Ps→Ps×Bool} {s t:Ps} (h:∀s,s.p≤N→LC N B s (c s)) (hs:s.p≤N) (e:c s=(t,false)):loopP N c s=t:=by
  have h1:=LC.eq h s hs
  simp only[e,if_false,Bool.false_eq_true] at h1
  exact h1
set_option maxHeartbeats 1000000 in
theorem branches_m {g:Nat} {fv:Value} {F:List Lf} {L:Ps→Ps} {q:Nat} {s:Ps} {W:World} (hF:FB F) (hL:GL F L) (HL:ListC g fv F L q) (h:Mk g fv F s W) (hq:q≤s.p) (hB:Bd F 0 s) :
    Calls Tryz.prog 106 #[.pointer (some ⟨g,0,none⟩)] W fun e w'=>e=.returned (.tuple #[])∧Mz g fv F W (branP F L s) w':=by
  have hg1:=gd_body hL hB.p
  have hB1:=hB.gd hg1
  have hq1:=Nat.le_trans hq hg1.p
  have hg2:=gd_want (F:=F) (c:=116) (by decide) hB1.p
  have hB2:=hB1.gd hg2
  have hq2:=Nat.le_trans hq1 hg2.p
  have hg3:=gd_body hL hB2.p
  have hB3:=hB2.gd hg3
  have hq3:=Nat.le_trans hq2 hg3.p
  obtain⟨T,hT⟩:∃T,T=branP F L s:=⟨_,rfl⟩
  rw[←hT]
  have HT:=Lib.hid hT
  clear hT
  have HC1:=Lib.hid (fun W1 (h1:Mk g fv F (s) W1)=>body_m hF hL HL h1 hq (hB.mono (by omega)))
  have HC2:=Lib.hid (fun W1 (h1:Mk g fv F (bodyP F L s) W1)=>want_m hF h1 (hB1.mono (by omega)) 116 (by decide))
  have HC3:=Lib.hid (fun W1 (h1:Mk g fv F (wantP F 116 (bodyP F L s)) W1)=>body_m hF hL HL h1 hq2 (hB2.mono (by omega)))
  have H0:=Lib.hid (Mz.start h)
  clear h
  go_enter Tryz.func106,Tryz.ntmps106
  go_wp2_with (first
    | (go_at_call 141
       with_reducible refine(HC1.out _ H0.out.m).mono ?_
       rintro e hw1 ⟨rfl,hz⟩
       have H1:=Lib.hid (H0.out.then hz)
       clear hz)
    | (go_at_call 114
       with_reducible refine(HC2.out _ H1.out.m).mono ?_
       rintro e hw2 ⟨rfl,hz⟩
       have H2:=Lib.hid (H1.out.then hz)
       clear hz)
    | (go_at_call 141
       with_reducible refine(HC3.out _ H2.out.m).mono ?_
       rintro e hw3 ⟨rfl,hz⟩
       have H3:=Lib.hid (H2.out.then hz)
       clear hz)
    | fail)
  go_loopw [] (fun wr=>∃u:Ps,q≤u.p∧Bd F 9 u∧(loopP F.length (fun s=>if comes F [101] s=true then (bodyP F L (wantP F 116 (bodyP F L (nextP s))),true) else (s,false))) u=(loopP F.length (fun s=>if comes F [101] s=true then (bodyP F L (wantP F 116 (bodyP F L (nextP s))),true) else (s,false))) (bodyP F L (wantP F 116 (bodyP F L s)))∧Mz g fv F W u wr) (fun wr=>F.length-pOf g wr)
  case atStart=>exact⟨_,hq3,hB3,rfl,H3.out⟩
  case round=>
    obtain⟨u,hqu,hBu,hlu,hz⟩:=hrel
    have U0:=Lib.hid hz
    have HU:=Lib.hid hlu
    have hup:=hz.m.pOf
    have HP:=Lib.hid hup
    clear hz hlu hup
    cases hb:comes F [101] u
    ·have HE:=Lib.hid (HU.out.symm.trans (LC.stepn (branch_c hL) hBu.p (t:=u) (by show (if _ then _ else _)=_;rw[if_neg (by rw[hb];decide)])))
     cases hc:comes F [108] u
     ·have NC1:=Lib.hid (fun W1 (h1:Mk g fv F (u) W1)=>take_mn hF h1 hBu.p [101] (by decide) hb)
      have NC2:=Lib.hid (fun W1 (h1:Mk g fv F (u) W1)=>take_mn hF h1 hBu.p [108] (by decide) hc)
      have NC3:=Lib.hid (fun W1 (h1:Mk g fv F (u) W1)=>want_m hF h1 (hBu.mono (by omega)) 102 (by decide))
      go_wp2_with (first
        | (go_at_call 30
           with_reducible refine(NC1.out _ U0.out.m).mono ?_
           rintro e nw1 ⟨rfl,hz⟩
           have N1:=Lib.hid (U0.out.then hz)
           clear hz)
        | (go_at_call 30
           with_reducible refine(NC2.out _ N1.out.m).mono ?_
           rintro e nw2 ⟨rfl,hz⟩
           have N2:=Lib.hid (N1.out.then hz)
           clear hz)
        | (go_at_call 114
           with_reducible refine(NC3.out _ N2.out.m).mono ?_
           rintro e nw3 ⟨rfl,hz⟩
           have N3:=Lib.hid (N2.out.then hz)
           clear hz)
        | fail)
      first|go_end0|refine bodyPost_ret (results_none rfl _ _ _) rfl ?_
      refine⟨rfl,?_⟩
      rw[HT.out]
      unfold branP
      simp only
      rw[HE.out]
      simp only[hc,if_false,Bool.false_eq_true]
      exact N3.out
     ·have hlt:=comes_lt hc (by decide)
      have hn2:=hBu.next hlt (by omega)
      have hq7:q≤(nextP u).p:=Nat.le_trans hqu (Nat.le_succ _)
      have hg8:=gd_body hL hn2.p
      have hB8:=hn2.gd hg8
      have NC1:=Lib.hid (fun W1 (h1:Mk g fv F (u) W1)=>take_mn hF h1 hBu.p [101] (by decide) hb)
      have NC2:=Lib.hid (fun W1 (h1:Mk g fv F (u) W1)=>take_my hF h1 hBu.p [108] (by decide) hc)
      have NC3:=Lib.hid (fun W1 (h1:Mk g fv F (nextP u) W1)=>body_m hF hL HL h1 hq7 (hn2.mono (by omega)))
      have NC4:=Lib.hid (fun W1 (h1:Mk g fv F (bodyP F L (nextP u)) W1)=>want_m hF h1 (hB8.mono (by omega)) 102 (by decide))
      go_wp2_with (first
        | (go_at_call 30
           with_reducible refine(NC1.out _ U0.out.m).mono ?_
           rintro e nw1 ⟨rfl,hz⟩
           have N1:=Lib.hid (U0.out.then hz)
           clear hz)
        | (go_at_call 30
           with_reducible refine(NC2.out _ N1.out.m).mono ?_
           rintro e nw2 ⟨rfl,hz⟩
           have N2:=Lib.hid (N1.out.then hz)
           clear hz)
        | (go_at_call 141
           with_reducible refine(NC3.out _ N2.out.m).mono ?_
           rintro e nw3 ⟨rfl,hz⟩
           have N3:=Lib.hid (N2.out.then hz)
           clear hz)
        | (go_at_call 114
           with_reducible refine(NC4.out _ N3.out.m).mono ?_
           rintro e nw4 ⟨rfl,hz⟩
           have N4:=Lib.hid (N3.out.then hz)
           clear hz)
        | fail)
      first|go_end0|refine bodyPost_ret (results_none rfl _ _ _) rfl ?_
      refine⟨rfl,?_⟩
      rw[HT.out]
      unfold branP
      simp only
      rw[HE.out]
      simp only[hc,if_true]
      exact N4.out
    ·have hy:=LC.y ((branch_c hL) u hBu.p) (t:=bodyP F L (wantP F 116 (bodyP F L (nextP u)))) (by show (if _ then _ else _)=_;rw[if_pos hb])
     have HE:=Lib.hid ((LC.stepy (branch_c hL) hBu.p (t:=bodyP F L (wantP F 116 (bodyP F L (nextP u)))) (by show (if _ then _ else _)=_;rw[if_pos hb])).symm.trans HU.out)
     have hlt:=comes_lt hb (by decide)
     have hn1:=hBu.next hlt (by omega)
     have hq4:q≤(nextP u).p:=Nat.le_trans hqu (Nat.le_succ _)
     have hg4:=gd_body hL hn1.p
     have hB4:=hn1.gd hg4
     have hq5:=Nat.le_trans hq4 hg4.p
     have hg5:=gd_want (F:=F) (c:=116) (by decide) hB4.p
     have hB5:=hB4.gd hg5
     have hq6:=Nat.le_trans hq5 hg5.p
     have YC1:=Lib.hid (fun W1 (h1:Mk g fv F (u) W1)=>take_my hF h1 hBu.p [101] (by decide) hb)
     have YC2:=Lib.hid (fun W1 (h1:Mk g fv F (nextP u) W1)=>body_m hF hL HL h1 hq4 (hn1.mono (by omega)))
     have YC3:=Lib.hid (fun W1 (h1:Mk g fv F (bodyP F L (nextP u)) W1)=>want_m hF h1 (hB4.mono (by omega)) 116 (by decide))
     have YC4:=Lib.hid (fun W1 (h1:Mk g fv F (wantP F 116 (bodyP F L (nextP u))) W1)=>body_m hF hL HL h1 hq6 (hB5.mono (by omega)))
     go_wp2_with (first
       | (go_at_call 30
          with_reducible refine(YC1.out _ U0.out.m).mono ?_
          rintro e yw1 ⟨rfl,hz⟩
          have Y1:=Lib.hid (U0.out.then hz)
          clear hz)
       | (go_at_call 141
          with_reducible refine(YC2.out _ Y1.out.m).mono ?_
          rintro e yw2 ⟨rfl,hz⟩
          have Y2:=Lib.hid (Y1.out.then hz)
          clear hz)
       | (go_at_call 114
          with_reducible refine(YC3.out _ Y2.out.m).mono ?_
          rintro e yw3 ⟨rfl,hz⟩
          have Y3:=Lib.hid (Y2.out.then hz)
          clear hz)
       | (go_at_call 141
          with_reducible refine(YC4.out _ Y3.out.m).mono ?_
          rintro e yw4 ⟨rfl,hz⟩
          have Y4:=Lib.hid (Y3.out.then hz)
          clear hz)
       | fail)
     refine⟨⟨_,Nat.le_trans hqu (Nat.le_of_lt hy.2),hBu.gd hy.1,HE.out,Y4.out⟩,?_⟩
     rw[Y4.out.m.pOf,HP.out]
     have:=hy.2
     have:=hy.1.N
     omega
end Go.Proofs.YtlbfdbinaekjoaaGreatDoor
namespace Go.Proofs.YtlbfdbinaekjoaaGreatDoor
open Go.RowKit
set_option linter.unusedVariables false
set_option linter.unusedSimpArgs false
set_option maxRecDepth 100000
set_option maxHeartbeats 1000000 in
theorem item_m {g:Nat} {fv:Value} {F:List Lf} {L:Ps→Ps} {q:Nat} {s:Ps} {W:World} (hF:FB F) (hL:GL F L) (HL:ListC g fv F L q) (h:Mk g fv F s W) (hq:q≤s.p) (hB:Bd F 10 s) :
    Calls Tryz.prog 143 #[.pointer (some ⟨g,0,none⟩)] W fun e w'=>e=.returned (.tuple #[])∧Mz g fv F W (itemP F L s) w':=by
  have hg1:=gd_take (F:=F) (cs:=[40]) (by decide) hB.p
  have hB1:=hB.gd hg1
  have hg2:=gd_word (F:=F) hB1.p
  have hB2:=hB1.gd hg2
  have hq2:=Nat.le_trans hq (Nat.le_trans hg1.p hg2.p)
  obtain⟨T,hT⟩:∃T,T=itemP F L s:=⟨_,rfl⟩
  rw[←hT]
  have HT:=Lib.hid hT
  clear hT
  have HC1:=Lib.hid (fun W1 (h1:Mk g fv F (s) W1)=>take_m hF h1 hB.p [40] (by decide))
  have HC2:=Lib.hid (fun W1 (h1:Mk g fv F (takeP F [40] s) W1)=>mword_m hF h1 (hB1.mono (by omega)))
  have H0:=Lib.hid (Mz.start h)
  clear h
  go_enter Tryz.func143,Tryz.ntmps143
  go_wp2_with (first
    | (go_at_call 30
       with_reducible refine(HC1.out _ H0.out.m).mono ?_
       rintro e hw1 ⟨rfl,hz⟩
       have H1:=Lib.hid (H0.out.then hz)
       clear hz)
    | (go_at_call 113
       with_reducible refine(HC2.out _ H1.out.m).mono ?_
       rintro e hw2 ⟨rfl,hz⟩
       have H2:=Lib.hid (H1.out.then hz)
       clear hz)
    | fail)
  go_loopw [] (fun wr=>∃u:Ps,q≤u.p∧Bd F 11 u∧(loopP F.length (fun s=>if comes F [124] s=true then (wordP F (nextP s),true) else (s,false))) u=(loopP F.length (fun s=>if comes F [124] s=true then (wordP F (nextP s),true) else (s,false))) (wordP F (takeP F [40] s))∧Mz g fv F W u wr) (fun wr=>F.length-pOf g wr)
  case atStart=>exact⟨_,hq2,hB2,rfl,H2.out⟩
  case round=>
    obtain⟨u,hqu,hBu,hlu,hz⟩:=hrel
    have U0:=Lib.hid hz
    have HU:=Lib.hid hlu
    have hup:=hz.m.pOf
    have HP:=Lib.hid hup
    clear hz hlu hup
    cases hb:comes F [124] u
    ·have HE:=Lib.hid (HU.out.symm.trans (LC.stepn item_c hBu.p (t:=u) (by show (if _ then _ else _)=_;rw[if_neg (by rw[hb];decide)])))
     have hg4:=gd_want (F:=F) (c:=41) (by decide) hBu.p
     have hB4:=hBu.gd hg4
     have hg5:=gd_lines (F:=F) hB4.p
     have hB5:=hB4.gd hg5
     have hq5:=Nat.le_trans hqu (Nat.le_trans hg4.p hg5.p)
     cases hc:pipeB F (linesP F (wantP F 41 u))
     ·have NC1:=Lib.hid (fun W1 (h1:Mk g fv F (u) W1)=>take_mn hF h1 hBu.p [124] (by decide) hb)
      have NC2:=Lib.hid (fun W1 (h1:Mk g fv F (u) W1)=>want_m hF h1 (hBu.mono (by omega)) 41 (by decide))
      have NC3:=Lib.hid (fun W1 (h1:Mk g fv F (wantP F 41 u) W1)=>lines_m hF h1 hB4.p)
      have NC4:=Lib.hid (fun W1 (h1:Mk g fv F (linesP F (wantP F 41 u)) W1)=>pipes_mn hF h1 hB5.p hc)
      go_wp2_with (first
        | (go_at_call 30
           with_reducible refine(NC1.out _ U0.out.m).mono ?_
           rintro e nw1 ⟨rfl,hz⟩
           have N1:=Lib.hid (U0.out.then hz)
           clear hz)
        | (go_at_call 114
           with_reducible refine(NC2.out _ N1.out.m).mono ?_
           rintro e nw2 ⟨rfl,hz⟩
           have N2:=Lib.hid (N1.out.then hz)
           clear hz)
        | (go_at_call 52
           with_reducible refine(NC3.out _ N2.out.m).mono ?_
           rintro e nw3 ⟨rfl,hz⟩
           have N3:=Lib.hid (N2.out.then hz)
           clear hz)
        | (go_at_call 31
           with_reducible refine(NC4.out _ N3.out.m).mono ?_
           rintro e nw4 ⟨rfl,hz⟩
           have N4:=Lib.hid (N3.out.then hz)
           clear hz)
        | fail)
      first|go_end0|refine bodyPost_ret (results_none rfl _ _ _) rfl ?_
      refine⟨rfl,?_⟩
      rw[HT.out]
      unfold itemP
      simp only
      rw[HE.out]
      simp only[hc,if_false,Bool.false_eq_true]
      exact N4.out
     ·have NC1:=Lib.hid (fun W1 (h1:Mk g fv F (u) W1)=>take_mn hF h1 hBu.p [124] (by decide) hb)
      have NC2:=Lib.hid (fun W1 (h1:Mk g fv F (u) W1)=>want_m hF h1 (hBu.mono (by omega)) 41 (by decide))
      have NC3:=Lib.hid (fun W1 (h1:Mk g fv F (wantP F 41 u) W1)=>lines_m hF h1 hB4.p)
      have NC4:=Lib.hid (fun W1 (h1:Mk g fv F (linesP F (wantP F 41 u)) W1)=>pipes_my hF h1 hB5.p hc)
      have NC5:=Lib.hid (fun W1 (h1:Mk g fv F (linesP F (wantP F 41 u)) W1)=>nodeL_m hF hL HL h1 hq5 (hB5.mono (by omega)))
      go_wp2_with (first
        | (go_at_call 30
           with_reducible refine(NC1.out _ U0.out.m).mono ?_
           rintro e nw1 ⟨rfl,hz⟩
           have N1:=Lib.hid (U0.out.then hz)
           clear hz)
        | (go_at_call 114
           with_reducible refine(NC2.out _ N1.out.m).mono ?_
           rintro e nw2 ⟨rfl,hz⟩
           have N2:=Lib.hid (N1.out.then hz)
           clear hz)
        | (go_at_call 52
           with_reducible refine(NC3.out _ N2.out.m).mono ?_
           rintro e nw3 ⟨rfl,hz⟩
           have N3:=Lib.hid (N2.out.then hz)
           clear hz)
        | (go_at_call 31
           with_reducible refine(NC4.out _ N3.out.m).mono ?_
           rintro e nw4 ⟨rfl,hz⟩
           have N4:=Lib.hid (N3.out.then hz)
           clear hz)
        | (go_at_call 14
           with_reducible refine(NC5.out _ N4.out.m).mono ?_
           rintro e nw5 ⟨rfl,hz⟩
           have N5:=Lib.hid (N4.out.then hz)
           clear hz)
        | fail)
      first|go_end0|refine bodyPost_ret (results_none rfl _ _ _) rfl ?_
      refine⟨rfl,?_⟩
      rw[HT.out]
      unfold itemP
      simp only
      rw[HE.out]
      simp only[hc,if_true]
      exact N5.out
    ·have hy:=LC.y (item_c u hBu.p) (t:=wordP F (nextP u)) (by show (if _ then _ else _)=_;rw[if_pos hb])
     have HE:=Lib.hid ((LC.stepy item_c hBu.p (t:=wordP F (nextP u)) (by show (if _ then _ else _)=_;rw[if_pos hb])).symm.trans HU.out)
     have hlt:=comes_lt hb (by decide)
     have hn1:=hBu.next hlt (by omega)
     have YC1:=Lib.hid (fun W1 (h1:Mk g fv F (u) W1)=>take_my hF h1 hBu.p [124] (by decide) hb)
     have YC2:=Lib.hid (fun W1 (h1:Mk g fv F (nextP u) W1)=>mword_m hF h1 (hn1.mono (by omega)))
     go_wp2_with (first
       | (go_at_call 30
          with_reducible refine(YC1.out _ U0.out.m).mono ?_
          rintro e yw1 ⟨rfl,hz⟩
          have Y1:=Lib.hid (U0.out.then hz)
          clear hz)
       | (go_at_call 113
          with_reducible refine(YC2.out _ Y1.out.m).mono ?_
          rintro e yw2 ⟨rfl,hz⟩
          have Y2:=Lib.hid (Y1.out.then hz)
          clear hz)
       | fail)
     refine⟨⟨_,Nat.le_trans hqu (Nat.le_of_lt hy.2),hBu.gd hy.1,HE.out,Y2.out⟩,?_⟩
     rw[Y2.out.m.pOf,HP.out]
     have:=hy.2
     have:=hy.1.N
     omega
theorem nodeI_m {g:Nat} {fv:Value} {F:List Lf} {L:Ps→Ps} {q:Nat} {s:Ps} {W:World} (hF:FB F) (hL:GL F L) (HL:ListC g fv F L q) (h:Mk g fv F s W) (hq:q≤s.p) (hB:Bd F 9 s) :
    Calls Tryz.prog 14 #[.pointer (some ⟨g,0,none⟩),.int .i64 15,.func (.func 143) #[.pointer (some ⟨g,0,none⟩)] #[]] W fun e w'=>e=.returned (.tuple #[])∧Mz g fv F W (nodeP 15 (itemP F L) s) w':=by
  have hi:=hB.inn 15
  have hg:=gd_item hL (s:=inN 15 s) hi.p
  have hn:=hF.n
  have h1:=hg.l
  have h2:=hg.N
  rw[inN_len] at h1
  exact node_v (t:=itemP F L (inN 15 s)) 15 _ h (hB.l5 hF (by omega)) (by omega) (enters_of Tryz.func143 (by kernel_rfl) rfl) (fun W1 h1=>item_m hF hL HL h1.m hq hi) (by omega) (by omega)
theorem comes1 (F:List Lf) (c:UInt8) (s:Ps):comes F [c] s=(sg F s.p==c):=by
  unfold comes
  rw[List.contains_cons]
  simp
theorem sign_mz {g:Nat} {fv:Value} {F:List Lf} {s:Ps} {W:World} (hF:FB F) (h:Mk g fv F s W) (hs:s.p≤F.length) (c:UInt8) (hc:c=sg F s.p) :
    Calls Tryz.prog 49 #[.pointer (some ⟨g,0,none⟩),.int .i64 0] W fun e w'=>e=.returned (.int .u8 (c.toNat:Int))∧Mz g fv F W s w':=by
  have c0:=sign_m hF h hs 0 s.p (by omega) (.inl rfl)
  rw[←hc] at c0
  exact c0.mono fun e w' ⟨h1,h2⟩=>⟨h1,(Mz.start h).next h2⟩
set_option maxHeartbeats 4000000 in
theorem cases_m {g:Nat} {fv:Value} {F:List Lf} {L:Ps→Ps} {q:Nat} {s:Ps} {W:World} (hF:FB F) (hL:GL F L) (HL:ListC g fv F L q) (h:Mk g fv F s W) (hq:q≤s.p) (hB:Bd F 0 s) :
    Calls Tryz.prog 109 #[.pointer (some ⟨g,0,none⟩)] W fun e w'=>e=.returned (.tuple #[])∧Mz g fv F W (casesP F L s) w':=by
  have hg1:=gd_word (F:=F) hB.p
  have hB1:=hB.gd hg1
  have hg2:=gd_lines (F:=F) hB1.p
  have hB2:=hB1.gd hg2
  have hg3:=gd_want (F:=F) (c:=107) (by decide) hB2.p
  have hB3:=hB2.gd hg3
  have hg4:=gd_lines (F:=F) hB3.p
  have hB4:=hB3.gd hg4
  have hq4:=Nat.le_trans hq (Nat.le_trans hg1.p (Nat.le_trans hg2.p (Nat.le_trans hg3.p hg4.p)))
  obtain⟨T,hT⟩:∃T,T=casesP F L s:=⟨_,rfl⟩
  rw[←hT]
  have HT:=Lib.hid hT
  clear hT
  have HC1:=Lib.hid (fun W1 (h1:Mk g fv F (s) W1)=>mword_m hF h1 (hB.mono (by omega)))
  have HC2:=Lib.hid (fun W1 (h1:Mk g fv F (wordP F s) W1)=>lines_m hF h1 hB1.p)
  have HC3:=Lib.hid (fun W1 (h1:Mk g fv F (linesP F (wordP F s)) W1)=>want_m hF h1 (hB2.mono (by omega)) 107 (by decide))
  have HC4:=Lib.hid (fun W1 (h1:Mk g fv F (wantP F 107 (linesP F (wordP F s))) W1)=>lines_m hF h1 hB3.p)
  have H0:=Lib.hid (Mz.start h)
  clear h
  go_enter Tryz.func109,Tryz.ntmps109
  go_wp2_with fail
  go_step3
  go_wp2_with (first
    | (go_at_call 113
       with_reducible refine(HC1.out _ H0.out.m).mono ?_
       rintro e hw1 ⟨rfl,hz⟩
       have H1:=Lib.hid (H0.out.then hz)
       clear hz)
    | (go_at_call 52
       with_reducible refine(HC2.out _ H1.out.m).mono ?_
       rintro e hw2 ⟨rfl,hz⟩
       have H2:=Lib.hid (H1.out.then hz)
       clear hz)
    | (go_at_call 114
       with_reducible refine(HC3.out _ H2.out.m).mono ?_
       rintro e hw3 ⟨rfl,hz⟩
       have H3:=Lib.hid (H2.out.then hz)
       clear hz)
    | (go_at_call 52
       with_reducible refine(HC4.out _ H3.out.m).mono ?_
       rintro e hw4 ⟨rfl,hz⟩
       have H4:=Lib.hid (H3.out.then hz)
       clear hz)
    | fail)
  go_step3
  go_wp2_with fail
  go_loopw [] (fun wr=>∃u:Ps,q≤u.p∧Bd F 5 u∧(loopP F.length (fun s=>if itemB F s=true then (if comes F [121] (nodeP 15 (itemP F L) s)=true then (linesP F (nextP (nodeP 15 (itemP F L) s)),true) else (nodeP 15 (itemP F L) s,false)) else (s,false))) u=(loopP F.length (fun s=>if itemB F s=true then (if comes F [121] (nodeP 15 (itemP F L) s)=true then (linesP F (nextP (nodeP 15 (itemP F L) s)),true) else (nodeP 15 (itemP F L) s,false)) else (s,false))) (linesP F (wantP F 107 (linesP F (wordP F s))))∧Mz g fv F W u wr) (fun wr=>F.length-pOf g wr)
  case atStart=>exact⟨_,hq4,hB4.mono (by omega),rfl,H4.out⟩
  case round=>
    obtain⟨u,hqu,hBu,hlu,hz⟩:=hrel
    have U0:=Lib.hid hz
    have HU:=Lib.hid hlu
    have hup:=hz.m.pOf
    have HP:=Lib.hid hup
    clear hz hlu hup
    have hib:itemB F u=(comes F [40] u||isW F u.p&&sg F u.p != 122):=by unfold itemB;rw[comes1]
    cases x1:comes F [40] u
    ·cases x2:isW F u.p
     ·have hb:itemB F u=false:=by rw[hib,x1,x2];rfl
      clear hib
      have HE:=Lib.hid (HU.out.symm.trans (LC.stepn (cases_c hL) hBu.p (t:=u) (by show (if _ then _ else _)=_;rw[if_neg (by rw[hb];decide)])))
      have NC1:=Lib.hid (fun W1 (h1:Mk g fv F (u) W1)=>comes_mn hF h1 hBu.p [40] (by decide) x1)
      have NC2:=Lib.hid (fun W1 (h1:Mk g fv F (u) W1)=>isWord_mn hF h1 hBu.p x2)
      have NC3:=Lib.hid (fun W1 (h1:Mk g fv F (u) W1)=>want_m hF h1 (hBu.mono (by omega)) 122 (by decide))
      go_wp2_with (first
        | (go_at_call 48
           with_reducible refine(NC1.out _ U0.out.m).mono ?_
           rintro e nw1 ⟨rfl,hz⟩
           have N1:=Lib.hid (U0.out.then hz)
           clear hz)
        | (go_at_call 115
           with_reducible refine(NC2.out _ N1.out.m).mono ?_
           rintro e nw2 ⟨rfl,hz⟩
           have N2:=Lib.hid (N1.out.then hz)
           clear hz)
        | (go_at_call 114
           with_reducible refine(NC3.out _ N2.out.m).mono ?_
           rintro e nw3 ⟨rfl,hz⟩
           have N3:=Lib.hid (N2.out.then hz)
           clear hz)
        | fail)
      try rw[Exit.noGoto_normal]
      first|go_end0|refine bodyPost_ret (results_none rfl _ _ _) rfl ?_
      refine⟨rfl,?_⟩
      rw[HT.out]
      unfold casesP
      rw[HE.out]
      exact N3.out
     ·obtain⟨c,hc3⟩:∃c,c=sg F u.p:=⟨_,rfl⟩
      rw[x1,x2,←hc3] at hib
      have HC3:=Lib.hid hc3
      clear hc3
      by_cases h9:c=122
      ·have hb:itemB F u=false:=by rw[hib];simp[h9]
       have k9:((c.toNat:Int)==122)=true:=by rw[show ((c.toNat:Int)==122)=(c==122) from u8_beq c 122];simp[h9]
       have k8:((c.toNat:Int)!=122)=false:=by rw[bne,k9];rfl
       clear hib h9
       have HE:=Lib.hid (HU.out.symm.trans (LC.stepn (cases_c hL) hBu.p (t:=u) (by show (if _ then _ else _)=_;rw[if_neg (by rw[hb];decide)])))
       have NC1:=Lib.hid (fun W1 (h1:Mk g fv F (u) W1)=>comes_mn hF h1 hBu.p [40] (by decide) x1)
       have NC2:=Lib.hid (fun W1 (h1:Mk g fv F (u) W1)=>isWord_my hF h1 hBu.p x2)
       have NC3:=Lib.hid (fun W1 (h1:Mk g fv F (u) W1)=>sign_mz hF h1 hBu.p c HC3.out)
       have NC4:=Lib.hid (fun W1 (h1:Mk g fv F (u) W1)=>want_m hF h1 (hBu.mono (by omega)) 122 (by decide))
       go_wp2_with (first
         | (go_at_call 48
            with_reducible refine(NC1.out _ U0.out.m).mono ?_
            rintro e nw1 ⟨rfl,hz⟩
            have N1:=Lib.hid (U0.out.then hz)
            clear hz)
         | (go_at_call 115
            with_reducible refine(NC2.out _ N1.out.m).mono ?_
            rintro e nw2 ⟨rfl,hz⟩
            have N2:=Lib.hid (N1.out.then hz)
            clear hz)
         | (go_at_call 49
            with_reducible refine(NC3.out _ N2.out.m).mono ?_
            rintro e nw3 ⟨rfl,hz⟩
            have N3:=Lib.hid (N2.out.then hz)
            clear hz)
         | (go_at_call 114
            with_reducible refine(NC4.out _ N3.out.m).mono ?_
            rintro e nw4 ⟨rfl,hz⟩
            have N4:=Lib.hid (N3.out.then hz)
            clear hz)
         | fail)
       try rw[Exit.noGoto_normal]
       first|go_end0|refine bodyPost_ret (results_none rfl _ _ _) rfl ?_
       refine⟨rfl,?_⟩
       rw[HT.out]
       unfold casesP
       rw[HE.out]
       exact N4.out
      ·have hb:itemB F u=true:=by rw[hib];simp[h9]
       have k9:((c.toNat:Int)==122)=false:=by rw[show ((c.toNat:Int)==122)=(c==122) from u8_beq c 122];exact beq_false_of_ne h9
       have k8:((c.toNat:Int)!=122)=true:=by rw[bne,k9];rfl
       clear hib h9
       have hg6:=(item_go hL hb).1
       have hB6:=hBu.gd hg6
       have hq6:=Nat.le_trans hqu hg6.p
       cases hc:comes F [121] (nodeP 15 (itemP F L) u)
       ·have HE:=Lib.hid (HU.out.symm.trans (LC.stepn (cases_c hL) hBu.p (t:=nodeP 15 (itemP F L) u) (by show (if _ then (if _ then _ else _) else _)=_;rw[if_pos hb,if_neg (by rw[hc];decide)])))
        have NC1:=Lib.hid (fun W1 (h1:Mk g fv F (u) W1)=>comes_mn hF h1 hBu.p [40] (by decide) x1)
        have NC2:=Lib.hid (fun W1 (h1:Mk g fv F (u) W1)=>isWord_my hF h1 hBu.p x2)
        have NC3:=Lib.hid (fun W1 (h1:Mk g fv F (u) W1)=>sign_mz hF h1 hBu.p c HC3.out)
        have NC4:=Lib.hid (fun W1 (h1:Mk g fv F (u) W1)=>nodeI_m hF hL HL h1 hqu (hBu.mono (by omega)))
        have NC5:=Lib.hid (fun W1 (h1:Mk g fv F (nodeP 15 (itemP F L) u) W1)=>take_mn hF h1 hB6.p [121] (by decide) hc)
        have NC6:=Lib.hid (fun W1 (h1:Mk g fv F (nodeP 15 (itemP F L) u) W1)=>want_m hF h1 (hB6.mono (by omega)) 122 (by decide))
        go_wp2_with (first
          | (go_at_call 48
             with_reducible refine(NC1.out _ U0.out.m).mono ?_
             rintro e nw1 ⟨rfl,hz⟩
             have N1:=Lib.hid (U0.out.then hz)
             clear hz)
          | (go_at_call 115
             with_reducible refine(NC2.out _ N1.out.m).mono ?_
             rintro e nw2 ⟨rfl,hz⟩
             have N2:=Lib.hid (N1.out.then hz)
             clear hz)
          | (go_at_call 49
             with_reducible refine(NC3.out _ N2.out.m).mono ?_
             rintro e nw3 ⟨rfl,hz⟩
             have N3:=Lib.hid (N2.out.then hz)
             clear hz)
          | (go_at_call 14
             with_reducible refine(NC4.out _ N3.out.m).mono ?_
             rintro e nw4 ⟨rfl,hz⟩
             have N4:=Lib.hid (N3.out.then hz)
             clear hz)
          | (go_at_call 30
             with_reducible refine(NC5.out _ N4.out.m).mono ?_
             rintro e nw5 ⟨rfl,hz⟩
             have N5:=Lib.hid (N4.out.then hz)
             clear hz)
          | (go_at_call 114
             with_reducible refine(NC6.out _ N5.out.m).mono ?_
             rintro e nw6 ⟨rfl,hz⟩
             have N6:=Lib.hid (N5.out.then hz)
             clear hz)
          | fail)
        try rw[Exit.noGoto_normal]
        first|go_end0|refine bodyPost_ret (results_none rfl _ _ _) rfl ?_
        refine⟨rfl,?_⟩
        rw[HT.out]
        unfold casesP
        rw[HE.out]
        exact N6.out
       ·have hlt:=comes_lt hc (by decide)
        have hn7:=hB6.next hlt (by omega)
        have he:(if itemB F u=true then (if comes F [121] (nodeP 15 (itemP F L) u)=true then (linesP F (nextP (nodeP 15 (itemP F L) u)),true) else (nodeP 15 (itemP F L) u,false)) else (u,false))=(linesP F (nextP (nodeP 15 (itemP F L) u)),true):=by rw[if_pos hb,if_pos hc]
        have hy:=LC.y (cases_c hL u hBu.p) (t:=linesP F (nextP (nodeP 15 (itemP F L) u))) he
        have HE:=Lib.hid ((LC.stepy (cases_c hL) hBu.p (t:=linesP F (nextP (nodeP 15 (itemP F L) u))) he).symm.trans HU.out)
        clear he
        have YC1:=Lib.hid (fun W1 (h1:Mk g fv F (u) W1)=>comes_mn hF h1 hBu.p [40] (by decide) x1)
        have YC2:=Lib.hid (fun W1 (h1:Mk g fv F (u) W1)=>isWord_my hF h1 hBu.p x2)
        have YC3:=Lib.hid (fun W1 (h1:Mk g fv F (u) W1)=>sign_mz hF h1 hBu.p c HC3.out)
        have YC4:=Lib.hid (fun W1 (h1:Mk g fv F (u) W1)=>nodeI_m hF hL HL h1 hqu (hBu.mono (by omega)))
        have YC5:=Lib.hid (fun W1 (h1:Mk g fv F (nodeP 15 (itemP F L) u) W1)=>take_my hF h1 hB6.p [121] (by decide) hc)
        have YC6:=Lib.hid (fun W1 (h1:Mk g fv F (nextP (nodeP 15 (itemP F L) u)) W1)=>lines_m hF h1 hn7.p)
        go_wp2_with (first
          | (go_at_call 48
             with_reducible refine(YC1.out _ U0.out.m).mono ?_
             rintro e yw1 ⟨rfl,hz⟩
             have Y1:=Lib.hid (U0.out.then hz)
             clear hz)
          | (go_at_call 115
             with_reducible refine(YC2.out _ Y1.out.m).mono ?_
             rintro e yw2 ⟨rfl,hz⟩
             have Y2:=Lib.hid (Y1.out.then hz)
             clear hz)
          | (go_at_call 49
             with_reducible refine(YC3.out _ Y2.out.m).mono ?_
             rintro e yw3 ⟨rfl,hz⟩
             have Y3:=Lib.hid (Y2.out.then hz)
             clear hz)
          | (go_at_call 14
             with_reducible refine(YC4.out _ Y3.out.m).mono ?_
             rintro e yw4 ⟨rfl,hz⟩
             have Y4:=Lib.hid (Y3.out.then hz)
             clear hz)
          | (go_at_call 30
             with_reducible refine(YC5.out _ Y4.out.m).mono ?_
             rintro e yw5 ⟨rfl,hz⟩
             have Y5:=Lib.hid (Y4.out.then hz)
             clear hz)
          | (go_at_call 52
             with_reducible refine(YC6.out _ Y5.out.m).mono ?_
             rintro e yw6 ⟨rfl,hz⟩
             have Y6:=Lib.hid (Y5.out.then hz)
             clear hz)
          | fail)
        refine⟨⟨_,Nat.le_trans hqu (Nat.le_of_lt hy.2),hBu.gd hy.1,HE.out,Y6.out⟩,?_⟩
        rw[Y6.out.m.pOf,HP.out]
        have:=hy.2
        have:=hy.1.N
        omega
    ·have hb:itemB F u=true:=by rw[hib,x1];rfl
     clear hib
     have hg6:=(item_go hL hb).1
     have hB6:=hBu.gd hg6
     have hq6:=Nat.le_trans hqu hg6.p
     cases hc:comes F [121] (nodeP 15 (itemP F L) u)
     ·have HE:=Lib.hid (HU.out.symm.trans (LC.stepn (cases_c hL) hBu.p (t:=nodeP 15 (itemP F L) u) (by show (if _ then (if _ then _ else _) else _)=_;rw[if_pos hb,if_neg (by rw[hc];decide)])))
      have NC1:=Lib.hid (fun W1 (h1:Mk g fv F (u) W1)=>comes_my hF h1 hBu.p [40] (by decide) x1)
      have NC2:=Lib.hid (fun W1 (h1:Mk g fv F (u) W1)=>nodeI_m hF hL HL h1 hqu (hBu.mono (by omega)))
      have NC3:=Lib.hid (fun W1 (h1:Mk g fv F (nodeP 15 (itemP F L) u) W1)=>take_mn hF h1 hB6.p [121] (by decide) hc)
      have NC4:=Lib.hid (fun W1 (h1:Mk g fv F (nodeP 15 (itemP F L) u) W1)=>want_m hF h1 (hB6.mono (by omega)) 122 (by decide))
      go_wp2_with (first
        | (go_at_call 48
           with_reducible refine(NC1.out _ U0.out.m).mono ?_
           rintro e nw1 ⟨rfl,hz⟩
           have N1:=Lib.hid (U0.out.then hz)
           clear hz)
        | (go_at_call 14
           with_reducible refine(NC2.out _ N1.out.m).mono ?_
           rintro e nw2 ⟨rfl,hz⟩
           have N2:=Lib.hid (N1.out.then hz)
           clear hz)
        | (go_at_call 30
           with_reducible refine(NC3.out _ N2.out.m).mono ?_
           rintro e nw3 ⟨rfl,hz⟩
           have N3:=Lib.hid (N2.out.then hz)
           clear hz)
        | (go_at_call 114
           with_reducible refine(NC4.out _ N3.out.m).mono ?_
           rintro e nw4 ⟨rfl,hz⟩
           have N4:=Lib.hid (N3.out.then hz)
           clear hz)
        | fail)
      try rw[Exit.noGoto_normal]
      first|go_end0|refine bodyPost_ret (results_none rfl _ _ _) rfl ?_
      refine⟨rfl,?_⟩
      rw[HT.out]
      unfold casesP
      rw[HE.out]
      exact N4.out
     ·have hlt:=comes_lt hc (by decide)
      have hn7:=hB6.next hlt (by omega)
      have he:(if itemB F u=true then (if comes F [121] (nodeP 15 (itemP F L) u)=true then (linesP F (nextP (nodeP 15 (itemP F L) u)),true) else (nodeP 15 (itemP F L) u,false)) else (u,false))=(linesP F (nextP (nodeP 15 (itemP F L) u)),true):=by rw[if_pos hb,if_pos hc]
      have hy:=LC.y (cases_c hL u hBu.p) (t:=linesP F (nextP (nodeP 15 (itemP F L) u))) he
      have HE:=Lib.hid ((LC.stepy (cases_c hL) hBu.p (t:=linesP F (nextP (nodeP 15 (itemP F L) u))) he).symm.trans HU.out)
      clear he
      have YC1:=Lib.hid (fun W1 (h1:Mk g fv F (u) W1)=>comes_my hF h1 hBu.p [40] (by decide) x1)
      have YC2:=Lib.hid (fun W1 (h1:Mk g fv F (u) W1)=>nodeI_m hF hL HL h1 hqu (hBu.mono (by omega)))
      have YC3:=Lib.hid (fun W1 (h1:Mk g fv F (nodeP 15 (itemP F L) u) W1)=>take_my hF h1 hB6.p [121] (by decide) hc)
      have YC4:=Lib.hid (fun W1 (h1:Mk g fv F (nextP (nodeP 15 (itemP F L) u)) W1)=>lines_m hF h1 hn7.p)
      go_wp2_with (first
        | (go_at_call 48
           with_reducible refine(YC1.out _ U0.out.m).mono ?_
           rintro e yw1 ⟨rfl,hz⟩
           have Y1:=Lib.hid (U0.out.then hz)
           clear hz)
        | (go_at_call 14
           with_reducible refine(YC2.out _ Y1.out.m).mono ?_
           rintro e yw2 ⟨rfl,hz⟩
           have Y2:=Lib.hid (Y1.out.then hz)
           clear hz)
        | (go_at_call 30
           with_reducible refine(YC3.out _ Y2.out.m).mono ?_
           rintro e yw3 ⟨rfl,hz⟩
           have Y3:=Lib.hid (Y2.out.then hz)
           clear hz)
        | (go_at_call 52
           with_reducible refine(YC4.out _ Y3.out.m).mono ?_
           rintro e yw4 ⟨rfl,hz⟩
           have Y4:=Lib.hid (Y3.out.then hz)
           clear hz)
        | fail)
      refine⟨⟨_,Nat.le_trans hqu (Nat.le_of_lt hy.2),hBu.gd hy.1,HE.out,Y4.out⟩,?_⟩
      rw[Y4.out.m.pOf,HP.out]
      have:=hy.2
      have:=hy.1.N
      omega
end Go.Proofs.YtlbfdbinaekjoaaGreatDoor
namespace Go.Proofs.YtlbfdbinaekjoaaGreatDoor
open Go.RowKit
set_option linter.unusedVariables false
set_option linter.unusedSimpArgs false
set_option maxRecDepth 100000
set_option maxHeartbeats 2000000 in
theorem compound1_m {g bx by_ fX:Nat} {fv:Value} {F:List Lf} {s t:Ps} {W:World} (hF:FB F) (h:Mk g fv F s W) (hs:s.p<F.length) (hB:Bd F 14 t)
    (hb:Bk W bx 40 #[.pointer (some ⟨g,0,none⟩)]) (hm:Bk W by_ 1 #[.func (.func fX) #[.pointer (some ⟨g,0,none⟩)] #[]])
    (eg:∀args w,(callFunc fX args).run Tryz.prog w=.ok (.enter fX args) w) (hX:∀W1,Mk g fv F (nextP s) W1→Calls Tryz.prog fX #[.pointer (some ⟨g,0,none⟩)] W1 fun e w'=>e=.returned (.tuple #[])∧Mz g fv F W1 t w') :
    Calls Tryz.prog 110 #[.pointer (some ⟨bx,0,none⟩),.pointer (some ⟨by_,0,none⟩)] W fun e w'=>e=.returned (.tuple #[])∧Mz g fv F W (redirsP F t) w':=by
  have hn:=hF.n
  have v1:IntKind.i64.wrap ((s.p:Int)+1)=((s.p+1:Nat):Int):=by rw[IntWalk.i64_in _ (by omega)];omega
  obtain⟨c0,c1,c3,c4,f1,f2,f3,f4⟩:=h.cells
  have b0:=hb.cell 0
  have m0:W.cell? ⟨by_,0,none⟩=some (.func (.func fX) #[.pointer (some ⟨g,0,none⟩)] #[]):=hm.cell 0
  have HBX:=Lib.hid hb
  have HM:=Lib.hid hm
  have HX:=Lib.hid hX
  have H0:=Lib.hid (Mz.start h)
  clear h hb hm hX
  go_enter Tryz.func110,Tryz.ntmps110
  go_upto_region 1 with fail
  have h1:=H0.out.setP (s.p+1)
  rw[show ((s.p+1:Nat):Int)=(s.p:Int)+1 by omega] at h1
  have H1:=Lib.hid h1
  clear h1
  have b1:=(Bk.kt HBX.out H1.out.f.kt (by decide)).cell 0
  have m1:_=some (Value.func (.func fX) #[.pointer (some ⟨g,0,none⟩)] #[]):=(Bk.kt HM.out H1.out.f.kt (by decide)).cell 0
  clear b0 m0 c0 c1 c3 c4 f1 f2 f3 f4
  generalize W.setCell {block:=g,off:=1} (Value.int IntKind.i64 ((s.p:Int)+1))=W1 at *
  have H1n:Mz g fv F W (nextP s) W1:=H1.out
  replace H1:=Lib.hid H1n
  clear H1n
  go_wp2_with (
    (with_reducible refine(HX.out _ H1.out.m).mono ?_
     rintro e w2 ⟨rfl,hz⟩
     have H2:=Lib.hid (H1.out.then hz)
     have b0:=(Bk.kt HBX.out H2.out.f.kt (by decide)).cell 0
     clear hz))
  go_loopw [] (fun wr=>∃u:Ps,Bd F 14 u∧(loopP F.length (fun s=>if redirB F s=true then (redirP F s,true) else (s,false))) u=(loopP F.length (fun s=>if redirB F s=true then (redirP F s,true) else (s,false))) t∧Mz g fv F W u wr) (fun wr=>F.length-pOf g wr)
  case atStart=>exact⟨_,hB,rfl,H2.out⟩
  case round=>
    obtain⟨u,hBu,hlu,hz⟩:=hrel
    have U0:=Lib.hid hz
    have HU:=Lib.hid hlu
    have hup:=hz.m.pOf
    have HP:=Lib.hid hup
    have b0:=(Bk.kt HBX.out U0.out.f.kt (by decide)).cell 0
    clear hz hlu hup
    cases hb:redirB F u
    ·have HE:=Lib.hid (HU.out.symm.trans (LC.stepn redirs_c hBu.p (t:=u) (by show (if _ then _ else _)=_;rw[if_neg (by rw[hb];decide)])))
     have HC1:=Lib.hid (fun W1 (h1:Mk g fv F u W1)=>redirect_mn hF h1 (hBu.mono (by omega)) hb)
     go_wp2_with (
       (go_at_call 111
        with_reducible refine(HC1.out _ U0.out.m).mono ?_
        rintro e w3 ⟨rfl,hz⟩
        have U1:=Lib.hid (U0.out.then hz)
        clear hz))
     first|go_end0|refine bodyPost_ret (results_none rfl _ _ _) rfl ?_
     refine⟨rfl,?_⟩
     unfold redirsP
     rw[HE.out]
     exact U1.out
    ·have hy:=LC.y (redirs_c u hBu.p) (t:=redirP F u) (by show (if _ then _ else _)=_;rw[if_pos hb])
     have HE:=Lib.hid ((LC.stepy redirs_c hBu.p (t:=redirP F u) (by show (if _ then _ else _)=_;rw[if_pos hb])).symm.trans HU.out)
     have HC1:=Lib.hid (fun W1 (h1:Mk g fv F u W1)=>redirect_my hF h1 (hBu.mono (by omega)) hb)
     go_wp2_with (
       (go_at_call 111
        with_reducible refine(HC1.out _ U0.out.m).mono ?_
        rintro e w3 ⟨rfl,hz⟩
        have U1:=Lib.hid (U0.out.then hz)
        clear hz))
     refine⟨⟨_,hBu.gd hy.1,HE.out,U1.out⟩,?_⟩
     rw[U1.out.m.pOf,HP.out]
     have:=hy.2
     have:=hy.1.N
     omega
end Go.Proofs.YtlbfdbinaekjoaaGreatDoor
