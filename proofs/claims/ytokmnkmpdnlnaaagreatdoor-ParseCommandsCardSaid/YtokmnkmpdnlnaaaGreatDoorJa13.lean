/- The reference's parser: what is within a For. -/
import Derived.Test.YtokmnkmpdnlnaaaGreatDoorNi13
namespace Go.Proofs.YtokmnkmpdnlnaaaGreatDoor
open Go.RowKit
set_option linter.unusedVariables false
set_option linter.unusedSimpArgs false
set_option maxRecDepth 100000
theorem nameq_r (l:List UInt8) (b:Bool) (hb:nameT l=b) (hl:l.length≤100000) (W:World) (n:Nat):Calls Tryz.prog 60 #[.string ⟨l.toArray⟩] (W.drewN n) fun e w'=>e=.returned (.bool b)∧∃m,w'=W.drewN m:=
  (isName_r l _ hl).mono fun e w' ⟨h1,h2⟩=>⟨by rw[h1,isName_T,hb],n,h2.symm⟩
theorem LC.yy {N B:Nat} {s t:Ps} {r:Ps×Bool} (h:LC N B s r) (e:r=(t,true)):Gd N 0 s t∧s.p<t.p:=by rw[e] at h;exact h.1 rfl
theorem LC.goy {N B:Nat} {c:Ps→Ps×Bool} {s t:Ps} (h:∀s,s.p≤N→LC N B s (c s)) (hs:s.p≤N) (e:c s=(t,true)):loopP N c s=loopP N c t:=by
  have h1:=LC.eq h s hs
  simp only[e,if_true] at h1
  exact h1
theorem LC.gon {N B:Nat} {c:Ps→Ps×Bool} {s t:Ps} (h:∀s,s.p≤N→LC N B s (c s)) (hs:s.p≤N) (e:c s=(t,false)):loopP N c s=t:=by
  have h1:=LC.eq h s hs
  simp only[e,if_false,Bool.false_eq_true] at h1
  exact h1
theorem isW_at {F:List Lf} {i:Nat} {x:Lf} (hx:F[i]? = some x):isW F i=(x.kd==6):=by unfold isW;rw[hx]
theorem tx_at {F:List Lf} {i:Nat} {x:Lf} (hx:F[i]? = some x):tx F i=x.tx:=by unfold tx;rw[hx]
theorem isW_out {F:List Lf} {i:Nat} (h:¬i<F.length):isW F i=false:=by unfold isW;rw[List.getElem?_eq_none (by omega)]
section
variable {g:Nat} {fv:Value} {F:List Lf} {L:Ps→Ps} {q:Nat} {s:Ps} {W:World} (hF:FB F) (hL:GL F L) (HL:ListR g fv F L q)
include hF hL HL
set_option maxHeartbeats 8000000 in
theorem for_q (hq:q≤s.p) (hB:Bd F 0 s) (h:Nk g fv F s W) :
    Calls Tryz.prog 156 #[.pointer (some ⟨g,0,none⟩)] W fun e w'=>e=.returned (.tuple #[])∧Ny g fv F W (eachP F L s) w':=by
  have hn:=hF.n
  have hp:=hB.p
  obtain⟨T,hT⟩:∃T,T=eachP F L s:=⟨_,rfl⟩
  rw[←hT]
  have H0:=Lib.hid (Ny.start h)
  have us:(0:Int)≤(s.p:Int):=by omega
  have key:∃s1,s1=(if (isW F s.p&&nameT (tx F s.p))=true then leafP 7 s else missP s):=⟨_,rfl⟩
  obtain⟨s1,hs1⟩:=key
  have hg1:Gd F.length 1 s s1:=by rw[hs1];exact Gd.ite (fun hc=>(gd_leaf (isW_lt ((Bool.and_eq_true _ _).mp hc).1)).1) (fun _=>gd_miss hp)
  have hB1:=hB.gd hg1
  have hq1:q≤s1.p:=Nat.le_trans hq hg1.p
  have hT1:T=doP F L (if comes F [59] s1=true then linesP F (nextP s1) else if comes F [107] (linesP F s1)=true then inP F (linesP F s1) else linesP F s1):=by rw[hT,hs1];rfl
  have HG:=Lib.hid (And.intro hg1 hT1)
  clear hT hT1 hg1
  by_cases hlt:s.p<F.length
  case' pos=>
    obtain⟨x,hx⟩:∃x,F[s.p]? = some x:=⟨_,List.getElem?_eq_getElem hlt⟩
    have hxl:=hF.t x (List.mem_of_getElem? hx)
    rw[isW_at hx,tx_at hx] at hs1
    obtain⟨g1,o1,c,y0,y3,y1,y2⟩:=h.wc hx
    have u1:(s.p:Int)<(F.length:Int):=by omega
    have d1:decide ((s.p:Int)<(F.length:Int))=true:=decide_eq_true u1
    clear h hx
    cases hk:(x.kd==6)
    case' false=>
      rw[hk] at hs1
      replace hs1:s1=missP s:=hs1
    case' true=>
      rw[hk] at hs1
      cases hm:nameT x.tx
      case' false=>
        rw[hm] at hs1
        replace hs1:s1=missP s:=hs1
        have HN:=Lib.hid (nameq_r x.tx false hm (by omega) W)
      case' true=>
        rw[hm] at hs1
        replace hs1:s1=leafP 7 s:=hs1
        have HN:=Lib.hid (nameq_r x.tx true hm (by omega) W)
      all_goals clear hm
  case' neg=>
    obtain⟨A,c,y0,y3⟩:=h.fc
    have d1:decide ((s.p:Int)<(F.length:Int))=false:=decide_eq_false (by omega)
    rw[isW_out hlt] at hs1
    replace hs1:s1=missP s:=hs1
    clear h
  all_goals (
    have H1':=Lib.hid hs1
    clear hs1
    go_enter Tryz.func156,Tryz.ntmps156
    go_wp2_with fail
    go_quiet (
      (go_at_call 60
       with_reducible exact HN.out _))
    have HQ:=Lib.hid (H0.out.drew nq)
    go_upto_region 3 with (first
      | (go_at_call 34
         with_reducible refine Ny.go HQ (one_q hF (k:=7) (by decide) (hB.mono (by omega)) hlt) fun w1 H1=>?_)
      | (go_at_call 71
         with_reducible refine Ny.go HQ (none_q hF (hB.mono (by omega))) fun w1 H1=>?_)
      | fail)
    have H1:=Ny.cast H1 H1'.out
    try clear HN
    clear H1' HQ H0 d1 y0 y3
    cases ha:comes F [59] s1
    ·have hg2:=gd_lines (F:=F) hB1.p
     have hB2:=hB1.gd hg2
     have hq2:q≤(linesP F s1).p:=Nat.le_trans hq1 hg2.p
     cases hk2:comes F [107] (linesP F s1)
     ·have e:T=doP F L (linesP F s1):=by rw[HG.out.2,if_neg (by rw[ha];decide),if_neg (by rw[hk2];decide)]
      go_wp2_with (first
        | (go_at_call 155
           with_reducible refine Ny.go H4 (done_q hF hL HL hq2 (hB2.mono (by omega))) fun w5 H5=>?_)
        | (go_at_call 31
           with_reducible refine Ny.go H3 (next_q _ hF hB2.p [107] (by decide) hk2) fun w4 H4=>?_)
        | (go_at_call 54
           with_reducible refine Ny.go H2 (lines_q hF hB1.p) fun w3 H3=>?_)
        | (go_at_call 31
           with_reducible refine Ny.go H1 (next_q _ hF hB1.p [59] (by decide) ha) fun w2 H2=>?_)
        | fail)
      first|go_end0|refine bodyPost_ret (results_none rfl _ _ _) rfl ?_
      exact⟨rfl,by rw[e];exact H5.out⟩
     ·have hlt4:=comes_lt hk2 (by decide)
      have hn4:=hB2.next hlt4 (by omega)
      have hq4:q≤(nextP (linesP F s1)).p:=Nat.le_trans hq2 (Nat.le_succ _)
      have HT:=Lib.hid (show T=doP F L (inP F (linesP F s1)) by rw[HG.out.2,if_neg (by rw[ha];decide),if_pos hk2])
      go_wp2_with (first
        | (go_at_call 31
           with_reducible refine Ny.inc H3 (by omega) (next_q _ hF hB2.p [107] (by decide) hk2) fun w4 gw4 dw4 kw4 vw4 H4=>?_)
        | (go_at_call 54
           with_reducible refine Ny.go H2 (lines_q hF hB1.p) fun w3 H3=>?_)
        | (go_at_call 31
           with_reducible refine Ny.go H1 (next_q _ hF hB1.p [59] (by decide) ha) fun w2 H2=>?_)
        | fail)
      go_loopw [] (fun wr=>∃u:Ps,q≤u.p∧Bd F 0 u∧wordsP F u=wordsP F (nextP (linesP F s1))∧Ny g fv F W u wr) (fun wr=>F.length-pOn g wr)
      case atStart=>exact⟨_,hq4,hn4,rfl,H4.out⟩
      case round=>
        obtain⟨u,hqu,hBu,hlu,hz⟩:=hrel
        have U0:=Lib.hid hz
        have HU:=Lib.hid hlu
        have HP:=Lib.hid hz.m.pOn
        have uu:(0:Int)≤(u.p:Int):=by omega
        have hup:=hBu.p
        clear hlu
        by_cases hlu:u.p<F.length
        case' pos=>
          obtain⟨x2,hx2⟩:∃x,F[u.p]? = some x:=⟨_,List.getElem?_eq_getElem hlu⟩
          have hw:=isW_at hx2
          obtain⟨g2,o2,c2,z0,z3,z1,z2⟩:=hz.m.wc hx2
          have ul:(u.p:Int)<(F.length:Int):=by omega
          have d2:decide ((u.p:Int)<(F.length:Int))=true:=decide_eq_true ul
          clear hz hx2
          cases hkd:(x2.kd==6)
          case' true=>
            rw[hkd] at hw
            have hy:=(words_c (F:=F) u hBu.p).yy (t:=leafP 7 u) (by rw[if_pos hw])
            have HE:=Lib.hid ((LC.goy words_c hBu.p (t:=leafP 7 u) (by show (if _ then _ else _)=_;rw[if_pos hw])).symm.trans HU.out)
            go_wp2_with fail
            go_quiet (fail)
            have UQ:=Lib.hid (U0.out.drew nq)
            go_wp2_with (
              (go_at_call 34
               with_reducible refine Ny.go UQ (one_q hF (k:=7) (by decide) (hBu.mono (by omega)) hlu) fun w6 H6=>?_))
            refine⟨⟨_,Nat.le_trans hqu (Nat.le_of_lt hy.2),hBu.gd hy.1,HE.out,H6.out⟩,?_⟩
            rw[H6.out.m.pOn,HP.out]
            have:=hy.2
            have:=hy.1.N
            omega
          case' false=>
            rw[hkd] at hw
        case' neg=>
          have hw:=isW_out hlu
          obtain⟨A2,c2,z0,z3⟩:=hz.m.fc
          have d2:decide ((u.p:Int)<(F.length:Int))=false:=decide_eq_false (by omega)
          clear hz
        all_goals (
          have HE:=Lib.hid (HU.out.symm.trans (LC.gon words_c hBu.p (t:=u) (by show (if _ then _ else _)=_;rw[if_neg (by rw[hw];decide)])))
          go_wp2_with fail
          go_quiet (fail)
          have UQ:=Lib.hid (U0.out.drew nq)
          clear hw z0 z3 d2
          cases hc:comes F [59] u
          ·cases hd:comes F [110] u
           ·obtain⟨hz,hz2⟩:=nlN_n hBu.p hd
            have HZ:=Lib.hid hz2.symm
            clear hz2
            have hg7:=gd_miss (F:=F) hBu.p
            have hB7:=hBu.gd hg7
            have hq7:q≤(missP u).p:=Nat.le_trans hqu hg7.p
            have e:T=doP F L (missP u):=by rw[HT.out];unfold inP;rw[HE.out];simp only[hc,hd,if_false,Bool.false_eq_true]
            go_wp2_with (first
              | (go_at_call 155
                 with_reducible refine Ny.go H8 (done_q hF hL HL hq7 (hB7.mono (by omega))) fun w9 H9=>?_)
              | (go_at_call 71
                 with_reducible refine Ny.go (Ny.cast H7 HZ.out) (none_q hF (hBu.mono (by omega))) fun w8 H8=>?_)
              | (go_at_call 54
                 with_reducible refine Ny.go H6 (lines_q hF hBu.p) fun w7 H7=>?_)
              | (go_at_call 31
                 with_reducible refine Ny.go UQ (next_q _ hF hBu.p [59] (by decide) hc) fun w6 H6=>?_)
              | fail)
            first|go_end0|refine bodyPost_ret (results_none rfl _ _ _) rfl ?_
            exact⟨rfl,by rw[e];exact H9.out⟩
           ·have hz:=nlN_y hBu.p hd
            have hg7:=gd_lines (F:=F) hBu.p
            have hB7:=hBu.gd hg7
            have hq7:q≤(linesP F u).p:=Nat.le_trans hqu hg7.p
            have e:T=doP F L (linesP F u):=by rw[HT.out];unfold inP;rw[HE.out];simp only[hc,hd,if_true,if_false,Bool.false_eq_true]
            go_wp2_with (first
              | (go_at_call 155
                 with_reducible refine Ny.go H7 (done_q hF hL HL hq7 (hB7.mono (by omega))) fun w8 H8=>?_)
              | (go_at_call 54
                 with_reducible refine Ny.go H6 (lines_q hF hBu.p) fun w7 H7=>?_)
              | (go_at_call 31
                 with_reducible refine Ny.go UQ (next_q _ hF hBu.p [59] (by decide) hc) fun w6 H6=>?_)
              | fail)
            first|go_end0|refine bodyPost_ret (results_none rfl _ _ _) rfl ?_
            exact⟨rfl,by rw[e];exact H8.out⟩
          ·have hlt6:=comes_lt hc (by decide)
           first
             | exact absurd hlt6 hlu
             | (have hn6:=hBu.next hlt6 (by omega)
                have hg7:=gd_lines (F:=F) hn6.p
                have hB7:=hn6.gd hg7
                have hq7:q≤(linesP F (nextP u)).p:=Nat.le_trans hqu (Nat.le_trans (Nat.le_succ _) hg7.p)
                have e:T=doP F L (linesP F (nextP u)):=by rw[HT.out];unfold inP;rw[HE.out];simp only[hc,if_true]
                go_wp2_with (first
                  | (go_at_call 155
                     with_reducible refine Ny.go H7 (done_q hF hL HL hq7 (hB7.mono (by omega))) fun w8 H8=>?_)
                  | (go_at_call 54
                     with_reducible refine Ny.go H6 (lines_q hF hn6.p) fun w7 H7=>?_)
                  | (go_at_call 31
                     with_reducible refine Ny.inc UQ (by omega) (next_q _ hF hBu.p [59] (by decide) hc) fun w6 gw6 dw6 kw6 vw6 H6=>?_)
                  | fail)
                first|go_end0|refine bodyPost_ret (results_none rfl _ _ _) rfl ?_
                exact⟨rfl,by rw[e];exact H8.out⟩))
    ·have hlt4:=comes_lt ha (by decide)
     have hn4:=hB1.next hlt4 (by omega)
     have hg5:=gd_lines (F:=F) hn4.p
     have hB5:=hn4.gd hg5
     have hq5:q≤(linesP F (nextP s1)).p:=Nat.le_trans hq1 (Nat.le_trans (Nat.le_succ _) hg5.p)
     have e:T=doP F L (linesP F (nextP s1)):=by rw[HG.out.2,if_pos ha]
     go_wp2_with (first
       | (go_at_call 155
          with_reducible refine Ny.go H3 (done_q hF hL HL hq5 (hB5.mono (by omega))) fun w4 H4=>?_)
       | (go_at_call 54
          with_reducible refine Ny.go H2 (lines_q hF hn4.p) fun w3 H3=>?_)
       | (go_at_call 31
          with_reducible refine Ny.inc H1 (by omega) (next_q _ hF hB1.p [59] (by decide) ha) fun w2 gw2 dw2 kw2 vw2 H2=>?_)
       | fail)
     first|go_end0|refine bodyPost_ret (results_none rfl _ _ _) rfl ?_
     exact⟨rfl,by rw[e];exact H4.out⟩)
end
end Go.Proofs.YtokmnkmpdnlnaaaGreatDoor
