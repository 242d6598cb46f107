/- The reference's parser: pipes and lists. PRINTED by gen_je13.py. -/
import Derived.Test.YtokmnkmpdnlnaaaGreatDoorJd13
namespace Go.Proofs.YtokmnkmpdnlnaaaGreatDoor
open Go.RowKit
set_option linter.unusedVariables false
set_option linter.unusedSimpArgs false
set_option maxRecDepth 100000
theorem lines_lt {F:List Lf} {s:Ps} (hs:s.p≤F.length) (h:comes F [110] s=true):s.p<(linesP F s).p:=by
  have h1:=comes_lt h (by decide)
  have h2:linesP F s=linesP F (nextP s):=LC.goy (lines_c (F:=F)) hs (by rw[if_pos h])
  have h3:=(gd_lines (F:=F) (s:=nextP s) h1).p
  rw[h2]
  exact Nat.lt_of_lt_of_le (Nat.lt_succ_self _) h3
section
variable {g:Nat} {fv:Value} {F:List Lf} {L:Ps→Ps} {q:Nat} {s:Ps} {W:World} (hF:FB F) (hL:GL F L) (HL:ListR g fv F L q)
include hF hL HL
set_option maxHeartbeats 8000000 in
theorem pip_q (hq:q≤s.p+1) (hB:Bd F 23 s) (hb:pipeB F s=true) (h:Nk g fv F s W) :
    Calls Tryz.prog 70 #[.pointer (some ⟨g,0,none⟩)] W fun e w'=>e=.returned (.tuple #[])∧Ny g fv F W (pipP F L s) w':=by
  have hn:=hF.n
  have hp:=hB.p
  have H0:=Lib.hid (Ny.start h)
  have HX:=Lib.hid (show pipP F L s=nodeP 4 (pipInP F L) s by unfold pipP;rw[if_pos hb])
  have hi:=hB.inn 4
  have hg1:=gd_take (F:=F) (cs:=[33]) (by decide) hi.p
  have hB1:=hi.gd hg1
  have hq1:q≤(takeP F [33] (inN 4 s)).p+1:=Nat.le_trans hq (Nat.succ_le_succ hg1.p)
  have hg2:=gd_com hL hB1.p
  have hB2:=hB1.gd hg2
  have hq2:q≤(comP F L (takeP F [33] (inN 4 s))).p+1:=Nat.le_trans hq1 (Nat.succ_le_succ hg2.p)
  have HGE:=Lib.hid (gd_pipIn hL hi.p)
  have hi5:(inN 4 s).p≤100000:=by show s.p≤_;omega
  clear h
  cases h1:comes F [33] (inN 4 s)
  case' false=>have HK:=Lib.hid (show takeP F [33] (inN 4 s)=inN 4 s from take_n h1)
  case' true=>have HK:=Lib.hid (show takeP F [33] (inN 4 s)=nextP (inN 4 s) from take_y h1)
  all_goals (
    go_enter Tryz.func70,Tryz.ntmps70
    go_wp2_with (first
      | (go_at_call 98
         with_reducible refine Ny.go (Ny.cast A2 HK.out) (command_q hF hL HL hq1 (hB1.mono (by omega))) fun a3 A3=>?_)
      | (go_at_call 31
         with_reducible refine Ny.go A1 (next_q false hF hi.p [33] (by decide) h1) fun a2 A2=>?_)
      | (go_at_call 31
         with_reducible refine Ny.inc A1 (hi5) (next_q true hF hi.p [33] (by decide) h1) fun a2 ga2 da2 ka2 va2 A2=>?_)
      | (go_at_call 30
         with_reducible refine Ny.go H0 (begin_q hF 4 (by decide) (hB.mono (by omega))) fun a1 A1=>?_)
      | fail)
    go_loopw [] (fun wr=>∃u:Ps,q≤u.p+1∧Bd F 26 u∧(loopP F.length (fun s=>if comes F [124] s=true then (comP F L (linesP F (nextP s)),true) else (s,false))) u=(loopP F.length (fun s=>if comes F [124] s=true then (comP F L (linesP F (nextP s)),true) else (s,false))) (comP F L (takeP F [33] (inN 4 s)))∧Ny g fv F W u wr) (fun wr=>F.length-pOn g wr)
    case atStart=>exact⟨_,hq2,hB2.mono (by omega),rfl,A3.out⟩
    case round=>
      obtain⟨u,hqu,hBu,hlu,hz⟩:=hrel
      have U0:=Lib.hid hz
      have HU:=Lib.hid hlu
      have HP:=Lib.hid hz.m.pOn
      have hup:=hBu.p
      clear hz hlu
      cases hc:comes F [124] u
      ·have HE:=Lib.hid (show pipInP F L (inN 4 s)=u by unfold pipInP;exact HU.out.symm.trans (LC.gon (pipIn_c hL) hBu.p (t:=u) (by show (if _ then _ else _)=_;rw[if_neg (by rw[hc];decide)])))
       go_wp2_with (first
         | (go_at_call 35
            with_reducible refine Ny.go (Ny.cast E1 HE.out) (end_q hF 4 (pipInP F L) (by decide) (hB.mono (by omega)) HGE.out (by omega)) fun e2 E2=>?_)
         | (go_at_call 31
            with_reducible refine Ny.go U0 (next_q false hF hup [124] (by decide) hc) fun e1 E1=>?_)
         | fail)
       first|go_end0|refine bodyPost_ret (results_none rfl _ _ _) rfl ?_
       exact⟨rfl,by rw[HX.out];exact E2.out⟩
      ·have hltu:=comes_lt hc (by decide)
       have hn2:=hBu.next hltu (by omega)
       have hg3:=gd_lines (F:=F) hn2.p
       have hB3:=hn2.gd hg3
       have hq3:q≤(linesP F (nextP u)).p+1:=Nat.le_trans hqu (Nat.succ_le_succ (Nat.le_trans (Nat.le_succ _) hg3.p))
       have hy:=(pipIn_c hL u hBu.p).yy (t:=comP F L (linesP F (nextP u))) (by rw[if_pos hc])
       have HE:=Lib.hid ((LC.goy (pipIn_c hL) hBu.p (t:=comP F L (linesP F (nextP u))) (by show (if _ then _ else _)=_;rw[if_pos hc])).symm.trans HU.out)
       go_wp2_with (first
         | (go_at_call 98
            with_reducible refine Ny.go E2 (command_q hF hL HL hq3 (hB3.mono (by omega))) fun e3 E3=>?_)
         | (go_at_call 54
            with_reducible refine Ny.go E1 (lines_q hF hn2.p) fun e2 E2=>?_)
         | (go_at_call 31
            with_reducible refine Ny.inc U0 (by omega) (next_q true hF hup [124] (by decide) hc) fun e1 ge1 de1 ke1 ve1 E1=>?_)
         | fail)
       refine⟨⟨_,Nat.le_trans hqu (Nat.succ_le_succ (Nat.le_of_lt hy.2)),hBu.gd hy.1,HE.out,E3.out⟩,?_⟩
       rw[E3.out.m.pOn,HP.out]
       have:=hy.2
       have:=hy.1.N
       omega)
set_option maxHeartbeats 8000000 in
theorem andor_q (hq:q≤s.p+1) (hB:Bd F 20 s) (hb:pipeB F s=true) (h:Nk g fv F s W) :
    Calls Tryz.prog 45 #[.pointer (some ⟨g,0,none⟩)] W fun e w'=>e=.returned (.tuple #[])∧Ny g fv F W (nodeP 3 (andP F L) s) w':=by
  have hn:=hF.n
  have hp:=hB.p
  have H0:=Lib.hid (Ny.start h)
  have hi:=hB.inn 3
  have hb3:pipeB F (inN 3 s)=true:=hb
  have hqi:q≤(inN 3 s).p+1:=hq
  have hg2:=gd_pip hL hi.p
  have hB2:=hi.gd hg2
  have hq2:q≤(pipP F L (inN 3 s)).p+1:=Nat.le_trans hq (Nat.succ_le_succ hg2.p)
  have HGE:=Lib.hid (gd_and hL hi.p)
  clear h
  go_enter Tryz.func45,Tryz.ntmps45
  go_wp2_with (first
    | (go_at_call 70
       with_reducible refine Ny.go A1 (pip_q hF hL HL hqi (hi.mono (by omega)) hb3) fun a3 A3=>?_)
    | (go_at_call 30
       with_reducible refine Ny.go H0 (begin_q hF 3 (by decide) (hB.mono (by omega))) fun a1 A1=>?_)
    | fail)
  go_loopw [] (fun wr=>∃u:Ps,q≤u.p+1∧Bd F 26 u∧(loopP F.length (fun s=>if comes F [97,111] s=true then (pipP F L (linesP F (nextP s)),true) else (s,false))) u=(loopP F.length (fun s=>if comes F [97,111] s=true then (pipP F L (linesP F (nextP s)),true) else (s,false))) (pipP F L (inN 3 s))∧Ny g fv F W u wr) (fun wr=>F.length-pOn g wr)
  case atStart=>exact⟨_,hq2,hB2.mono (by omega),rfl,A3.out⟩
  case round=>
    obtain⟨u,hqu,hBu,hlu,hz⟩:=hrel
    have U0:=Lib.hid hz
    have HU:=Lib.hid hlu
    have HP:=Lib.hid hz.m.pOn
    have hup:=hBu.p
    clear hz hlu
    cases hc:comes F [97,111] u
    ·have HE:=Lib.hid (show andP F L (inN 3 s)=u by unfold andP;exact HU.out.symm.trans (LC.gon (and_c hL) hBu.p (t:=u) (by show (if _ then _ else _)=_;rw[if_neg (by rw[hc];decide)])))
     go_wp2_with (first
       | (go_at_call 35
          with_reducible refine Ny.go (Ny.cast E1 HE.out) (end_q hF 3 (andP F L) (by decide) (hB.mono (by omega)) HGE.out (by omega)) fun e2 E2=>?_)
       | (go_at_call 31
          with_reducible refine Ny.go U0 (next_q false hF hup [97,111] (by decide) hc) fun e1 E1=>?_)
       | fail)
     first|go_end0|refine bodyPost_ret (results_none rfl _ _ _) rfl ?_
     exact⟨rfl,E2.out⟩
    ·have hltu:=comes_lt hc (by decide)
     have hn2:=hBu.next hltu (by omega)
     have hg3:=gd_lines (F:=F) hn2.p
     have hB3:=hn2.gd hg3
     have hq3:q≤(linesP F (nextP u)).p+1:=Nat.le_trans hqu (Nat.succ_le_succ (Nat.le_trans (Nat.le_succ _) hg3.p))
     have hy:=(and_c hL u hBu.p).yy (t:=pipP F L (linesP F (nextP u))) (by rw[if_pos hc])
     have HE:=Lib.hid ((LC.goy (and_c hL) hBu.p (t:=pipP F L (linesP F (nextP u))) (by show (if _ then _ else _)=_;rw[if_pos hc])).symm.trans HU.out)
     cases hd:pipeB F (linesP F (nextP u))
     case' false=>have HM:=Lib.hid (show pipP F L (linesP F (nextP u))=missP (linesP F (nextP u)) by unfold pipP;rw[if_neg (by rw[hd];decide)])
     all_goals (
       go_wp2_with (first
         | (go_at_call 70
            with_reducible refine Ny.go E3 (pip_q hF hL HL hq3 (hB3.mono (by omega)) hd) fun e4 E4=>?_)
         | (go_at_call 71
            with_reducible refine Ny.go E3 (none_q hF (hB3.mono (by omega))) fun e4 E4=>?_)
         | (go_at_call 32
            with_reducible refine Ny.go E2 (pipe_q hF _ hB3.p hd) fun e3 E3=>?_)
         | (go_at_call 54
            with_reducible refine Ny.go E1 (lines_q hF hn2.p) fun e2 E2=>?_)
         | (go_at_call 31
            with_reducible refine Ny.inc U0 (by omega) (next_q true hF hup [97,111] (by decide) hc) fun e1 ge1 de1 ke1 ve1 E1=>?_)
         | fail))
     ·exact⟨⟨_,Nat.le_trans hqu (Nat.succ_le_succ (Nat.le_of_lt hy.2)),hBu.gd hy.1,HE.out,(Ny.cast E4 HM.out).out⟩,by
        rw[(Ny.cast E4 HM.out).out.m.pOn,HP.out]
        have:=hy.2
        have:=hy.1.N
        omega⟩
     ·exact⟨⟨_,Nat.le_trans hqu (Nat.succ_le_succ (Nat.le_of_lt hy.2)),hBu.gd hy.1,HE.out,E4.out⟩,by
        rw[E4.out.m.pOn,HP.out]
        have:=hy.2
        have:=hy.1.N
        omega⟩
set_option maxHeartbeats 8000000 in
theorem list1_q (hq:q≤s.p+1) (hB:Bd F 19 s) (hb:pipeB F s=true) (h:Nk g fv F s W) :
    Calls Tryz.prog 33 #[.pointer (some ⟨g,0,none⟩)] W fun e w'=>e=.returned (.tuple #[])∧Ny g fv F W (nodeP 2 (lstP F L) s) w':=by
  have hn:=hF.n
  have hp:=hB.p
  have H0:=Lib.hid (Ny.start h)
  have hi:=hB.inn 2
  have hb2:pipeB F (inN 2 s)=true:=hb
  have hqi:q≤(inN 2 s).p+1:=hq
  have HGE:=Lib.hid (gd_lst hL hi.p)
  clear h
  go_enter Tryz.func33,Tryz.ntmps33
  go_wp2_with (first
    | (go_at_call 45
       with_reducible refine Ny.go A1 (andor_q hF hL HL hqi (hi.mono (by omega)) hb2) fun a3 A3=>?_)
    | (go_at_call 30
       with_reducible refine Ny.go H0 (begin_q hF 2 (by decide) (hB.mono (by omega))) fun a1 A1=>?_)
    | fail)
  go_loopw [] (fun wr=>∃u:Ps,q≤u.p+1∧Bd F 20 u∧pipeB F u=true∧lstP F L (inN 2 s)=lstP F L u∧Ny g fv F W (nodeP 3 (andP F L) u) wr) (fun wr=>F.length-pOn g wr)
  case atStart=>exact⟨inN 2 s,hqi,hi,hb2,rfl,A3.out⟩
  case round=>
    obtain⟨u,hqu,hBu,hpu,hlu,hz⟩:=hrel
    have U0:=Lib.hid hz
    have HU:=Lib.hid hlu
    have HP:=Lib.hid hz.m.pOn
    have hup:=hBu.p
    clear hz hlu
    have hgv:=Gd.node0 (k:=3) (s:=u) (f:=andP F L) (A:=2) (N:=F.length) fun t ht _=>gd_and hL (by rw[ht];exact hBu.p)
    have hBv:=hBu.gd hgv
    have hvp:=hBv.p
    cases ha:comes F [59,38] (nodeP 3 (andP F L) u)
    ·cases hk:comes F [110] (nodeP 3 (andP F L) u)
     ·obtain⟨hz0,hz1⟩:=nlN_n hBv.p hk
      have HZ:=Lib.hid hz1.symm
      clear hz1
      have HE:=Lib.hid (show lstP F L (inN 2 s)=nodeP 3 (andP F L) u by rw[HU.out];exact LC.gon (lst_c hL) hBu.p (t:=nodeP 3 (andP F L) u) (by show sepP F (nodeP 3 (andP F L) u)=_;unfold sepP;rw[if_neg (by rw[ha];decide),if_neg (by rw[hk];decide)]))
      go_wp2_with (first
        | (go_at_call 35
           with_reducible refine Ny.go (Ny.cast (Ny.cast E2 HZ.out) HE.out) (end_q hF 2 (lstP F L) (by decide) (hB.mono (by omega)) HGE.out (by omega)) fun e9 E9=>?_)
        | (go_at_call 54
           with_reducible refine Ny.go E1 (lines_q hF hBv.p) fun e2 E2=>?_)
        | (go_at_call 31
           with_reducible refine Ny.go U0 (next_q false hF hBv.p [59,38] (by decide) ha) fun e1 E1=>?_)
        | fail)
      try rw[Exit.noGoto_normal]
      first|go_end0|refine bodyPost_ret (results_none rfl _ _ _) rfl ?_
      exact⟨rfl,E9.out⟩
     ·have hz0:=nlN_y hBv.p hk
      have hg3:=gd_lines (F:=F) hBv.p
      have hB3:=hBv.gd hg3
      have hlt3:=lines_lt hBv.p hk
      cases hp':pipeB F (linesP F (nodeP 3 (andP F L) u))
      ·have HE:=Lib.hid (show lstP F L (inN 2 s)=linesP F (nodeP 3 (andP F L) u) by rw[HU.out];exact LC.gon (lst_c hL) hBu.p (t:=linesP F (nodeP 3 (andP F L) u)) (by show sepP F (nodeP 3 (andP F L) u)=_;unfold sepP;rw[if_neg (by rw[ha];decide),if_pos hk,hp']))
       go_wp2_with (first
         | (go_at_call 35
            with_reducible refine Ny.go (Ny.cast E3 HE.out) (end_q hF 2 (lstP F L) (by decide) (hB.mono (by omega)) HGE.out (by omega)) fun e9 E9=>?_)
         | (go_at_call 32
            with_reducible refine Ny.go E2 (pipe_q hF false hB3.p hp') fun e3 E3=>?_)
         | (go_at_call 54
            with_reducible refine Ny.go E1 (lines_q hF hBv.p) fun e2 E2=>?_)
         | (go_at_call 31
            with_reducible refine Ny.go U0 (next_q false hF hBv.p [59,38] (by decide) ha) fun e1 E1=>?_)
         | fail)
       try rw[Exit.noGoto_normal]
       first|go_end0|refine bodyPost_ret (results_none rfl _ _ _) rfl ?_
       exact⟨rfl,E9.out⟩
      ·have hy:=(lst_c hL u hBu.p).yy (t:=linesP F (nodeP 3 (andP F L) u)) (by show sepP F (nodeP 3 (andP F L) u)=_;unfold sepP;rw[if_neg (by rw[ha];decide),if_pos hk,hp'])
       have HE:=Lib.hid (show lstP F L (inN 2 s)=lstP F L (linesP F (nodeP 3 (andP F L) u)) by rw[HU.out];exact LC.goy (lst_c hL) hBu.p (t:=linesP F (nodeP 3 (andP F L) u)) (by show sepP F (nodeP 3 (andP F L) u)=_;unfold sepP;rw[if_neg (by rw[ha];decide),if_pos hk,hp']))
       have hqy:q≤(linesP F (nodeP 3 (andP F L) u)).p+1:=Nat.le_trans hqu (Nat.succ_le_succ (Nat.le_of_lt hy.2))
       have hgy:=Gd.node0 (k:=3) (s:=linesP F (nodeP 3 (andP F L) u)) (f:=andP F L) (A:=2) (N:=F.length) fun t ht _=>gd_and hL (by rw[ht];exact hy.1.N)
       go_wp2_with (first
         | (go_at_call 45
            with_reducible refine Ny.go E3 (andor_q hF hL HL hqy ((hBu.gd hy.1).mono (by omega)) hp') fun e9 E9=>?_)
         | (go_at_call 32
            with_reducible refine Ny.go E2 (pipe_q hF true hB3.p hp') fun e3 E3=>?_)
         | (go_at_call 54
            with_reducible refine Ny.go E1 (lines_q hF hBv.p) fun e2 E2=>?_)
         | (go_at_call 31
            with_reducible refine Ny.go U0 (next_q false hF hBv.p [59,38] (by decide) ha) fun e1 E1=>?_)
         | fail)
       refine⟨⟨linesP F (nodeP 3 (andP F L) u),hqy,hBu.gd hy.1,hp',HE.out,E9.out⟩,?_⟩
       rw[E9.out.m.pOn,HP.out]
       have h1:=hy.2
       have h2:=hgy.p
       have h3:=hgy.N
       have h4:=hgv.p
       have h5:=hlt3
       omega
    ·have hltv:=comes_lt ha (by decide)
     have hn2:=hBv.next hltv (by omega)
     have hg3:=gd_lines (F:=F) hn2.p
     have hB3:=hn2.gd hg3
     have hlt3:(nodeP 3 (andP F L) u).p<(linesP F (nextP (nodeP 3 (andP F L) u))).p:=Nat.lt_of_lt_of_le (Nat.lt_succ_self _) hg3.p
     cases hp':pipeB F (linesP F (nextP (nodeP 3 (andP F L) u)))
     ·have HE:=Lib.hid (show lstP F L (inN 2 s)=linesP F (nextP (nodeP 3 (andP F L) u)) by rw[HU.out];exact LC.gon (lst_c hL) hBu.p (t:=linesP F (nextP (nodeP 3 (andP F L) u))) (by show sepP F (nodeP 3 (andP F L) u)=_;unfold sepP;rw[if_pos ha,hp']))
      go_wp2_with (first
        | (go_at_call 35
           with_reducible refine Ny.go (Ny.cast E3 HE.out) (end_q hF 2 (lstP F L) (by decide) (hB.mono (by omega)) HGE.out (by omega)) fun e9 E9=>?_)
        | (go_at_call 32
           with_reducible refine Ny.go E2 (pipe_q hF false hB3.p hp') fun e3 E3=>?_)
        | (go_at_call 54
           with_reducible refine Ny.go E1 (lines_q hF hn2.p) fun e2 E2=>?_)
        | (go_at_call 31
           with_reducible refine Ny.inc U0 (by omega) (next_q true hF hBv.p [59,38] (by decide) ha) fun e1 ge1 de1 ke1 ve1 E1=>?_)
        | fail)
      try rw[Exit.noGoto_normal]
      first|go_end0|refine bodyPost_ret (results_none rfl _ _ _) rfl ?_
      exact⟨rfl,E9.out⟩
     ·have hy:=(lst_c hL u hBu.p).yy (t:=linesP F (nextP (nodeP 3 (andP F L) u))) (by show sepP F (nodeP 3 (andP F L) u)=_;unfold sepP;rw[if_pos ha,hp'])
      have HE:=Lib.hid (show lstP F L (inN 2 s)=lstP F L (linesP F (nextP (nodeP 3 (andP F L) u))) by rw[HU.out];exact LC.goy (lst_c hL) hBu.p (t:=linesP F (nextP (nodeP 3 (andP F L) u))) (by show sepP F (nodeP 3 (andP F L) u)=_;unfold sepP;rw[if_pos ha,hp']))
      have hqy:q≤(linesP F (nextP (nodeP 3 (andP F L) u))).p+1:=Nat.le_trans hqu (Nat.succ_le_succ (Nat.le_of_lt hy.2))
      have hgy:=Gd.node0 (k:=3) (s:=linesP F (nextP (nodeP 3 (andP F L) u))) (f:=andP F L) (A:=2) (N:=F.length) fun t ht _=>gd_and hL (by rw[ht];exact hy.1.N)
      go_wp2_with (first
        | (go_at_call 45
           with_reducible refine Ny.go E3 (andor_q hF hL HL hqy ((hBu.gd hy.1).mono (by omega)) hp') fun e9 E9=>?_)
        | (go_at_call 32
           with_reducible refine Ny.go E2 (pipe_q hF true hB3.p hp') fun e3 E3=>?_)
        | (go_at_call 54
           with_reducible refine Ny.go E1 (lines_q hF hn2.p) fun e2 E2=>?_)
        | (go_at_call 31
           with_reducible refine Ny.inc U0 (by omega) (next_q true hF hBv.p [59,38] (by decide) ha) fun e1 ge1 de1 ke1 ve1 E1=>?_)
        | fail)
      refine⟨⟨linesP F (nextP (nodeP 3 (andP F L) u)),hqy,hBu.gd hy.1,hp',HE.out,E9.out⟩,?_⟩
      rw[E9.out.m.pOn,HP.out]
      have h1:=hy.2
      have h2:=hgy.p
      have h3:=hgy.N
      have h4:=hgv.p
      have h5:=hlt3
      omega
end
theorem list_r {g:Nat} {fv:Value} {F:List Lf} (hF:FB F):∀n q,F.length+1≤n+q→ListR g fv F (lstF F n) q
  | 0,q,hn=>fun s W hq hB hb h=>by have:=hB.p;omega
  | n+1,q,hn=>fun s W hq hB hb h=>list1_q (q:=q+1) hF (gd_lstF F n) (list_r hF n (q+1) (by omega)) (by omega) hB hb h
end Go.Proofs.YtokmnkmpdnlnaaaGreatDoor
