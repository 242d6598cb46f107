/- The reference's parser: what is within a Case. PRINTED by gen_jb13.py. -/
import Derived.Test.YtokmnkmpdnlnaaaGreatDoorJa13
namespace Go.Proofs.YtokmnkmpdnlnaaaGreatDoor
open Go.RowKit
set_option linter.unusedVariables false
set_option linter.unusedSimpArgs false
set_option maxRecDepth 100000
section
variable {g:Nat} {fv:Value} {F:List Lf} {L:Ps→Ps} {q:Nat} {s:Ps} {W:World} (hF:FB F) (hL:GL F L) (HL:ListR g fv F L q)
include hF hL HL
set_option maxHeartbeats 8000000 in
theorem cases_q (hq:q≤s.p) (hB:Bd F 0 s) (h:Nk g fv F s W) :
    Calls Tryz.prog 157 #[.pointer (some ⟨g,0,none⟩)] W fun e w'=>e=.returned (.tuple #[])∧Ny g fv F W (casesP F L s) w':=by
  have hn:=hF.n
  have hp:=hB.p
  obtain⟨T,hT⟩:∃T,T=casesP F L s:=⟨_,rfl⟩
  rw[←hT]
  have HT:=Lib.hid (show T=wantP F 122 ((loopP F.length (fun s=>if itemB F s=true then (if comes F [121] (nodeP 15 (itemP F L) s)=true then (linesP F (nextP (nodeP 15 (itemP F L) s)),true) else (nodeP 15 (itemP F L) s,false)) else (s,false))) (linesP F (wantP F 107 (linesP F (wordP F s))))) from hT)
  clear hT
  have hg1:=gd_word (F:=F) hp
  have hB1:=hB.gd hg1
  have hg2:=gd_lines (F:=F) hB1.p
  have hB2:=hB1.gd hg2
  have hg3:=gd_want (F:=F) (c:=107) (by decide) hB2.p
  have hB3:=hB2.gd hg3
  have hg4:=gd_lines (F:=F) hB3.p
  have hB4:=hB3.gd hg4
  have hq4:=Nat.le_trans hq (Nat.le_trans hg1.p (Nat.le_trans hg2.p (Nat.le_trans hg3.p hg4.p)))
  have H0:=Lib.hid (Ny.start h)
  clear h
  go_enter Tryz.func157,Tryz.ntmps157
  go_wp2_with (first
    | (go_at_call 54
       with_reducible refine Ny.go H3 (lines_q hF hB3.p) fun w4 H4=>?_)
    | (go_at_call 117
       with_reducible refine Ny.go H2 (want_q hF (hB2.mono (by omega)) 107 (by decide)) fun w3 H3=>?_)
    | (go_at_call 54
       with_reducible refine Ny.go H1 (lines_q hF hB1.p) fun w2 H2=>?_)
    | (go_at_call 158
       with_reducible refine Ny.go H0 (word_q hF (hB.mono (by omega))) fun w1 H1=>?_)
    | fail)
  go_loopw [2] (fun v wr=>∃(u:Ps) (b:Bool),v=.bool b∧q≤u.p∧Bd F 5 u∧(if b=true then loopP F.length (fun s=>if itemB F s=true then (if comes F [121] (nodeP 15 (itemP F L) s)=true then (linesP F (nextP (nodeP 15 (itemP F L) s)),true) else (nodeP 15 (itemP F L) s,false)) else (s,false)) u=loopP F.length (fun s=>if itemB F s=true then (if comes F [121] (nodeP 15 (itemP F L) s)=true then (linesP F (nextP (nodeP 15 (itemP F L) s)),true) else (nodeP 15 (itemP F L) s,false)) else (s,false)) (linesP F (wantP F 107 (linesP F (wordP F s)))) else u=loopP F.length (fun s=>if itemB F s=true then (if comes F [121] (nodeP 15 (itemP F L) s)=true then (linesP F (nextP (nodeP 15 (itemP F L) s)),true) else (nodeP 15 (itemP F L) s,false)) else (s,false)) (linesP F (wantP F 107 (linesP F (wordP F s)))))∧Ny g fv F W u wr) (fun v wr=>F.length-pOn g wr)
  case atStart=>exact⟨_,true,rfl,hq4,hB4.mono (by omega),by rw[if_pos rfl],H4.out⟩
  case round=>
    obtain⟨u,b,rfl,hqu,hBu,hU,hz⟩:=hrel
    have U0:=Lib.hid hz
    have HU:=Lib.hid hU
    have HP:=Lib.hid hz.m.pOn
    have hup:=hBu.p
    have uu:(0:Int)≤(u.p:Int):=by omega
    clear hU
    cases b
    ·have HX:=Lib.hid (show u=loopP F.length (fun s=>if itemB F s=true then (if comes F [121] (nodeP 15 (itemP F L) s)=true then (linesP F (nextP (nodeP 15 (itemP F L) s)),true) else (nodeP 15 (itemP F L) s,false)) else (s,false)) (linesP F (wantP F 107 (linesP F (wordP F s)))) by have h1:=HU.out;rw[if_neg (by decide)] at h1;exact h1)
     clear hz
     go_wp2_with fail
     go_quiet (fail)
     have UQ:=Lib.hid (U0.out.drew nq)
     go_wp2_with (
       (go_at_call 117
        with_reducible refine Ny.go UQ (want_q hF (hBu.mono (by omega)) 122 (by decide)) fun w6 H6=>?_))
     first|go_end0|refine bodyPost_ret (results_none rfl _ _ _) rfl ?_
     exact⟨rfl,by rw[HT.out,←HX.out];exact H6.out⟩
    ·have HV:=Lib.hid (show loopP F.length (fun s=>if itemB F s=true then (if comes F [121] (nodeP 15 (itemP F L) s)=true then (linesP F (nextP (nodeP 15 (itemP F L) s)),true) else (nodeP 15 (itemP F L) s,false)) else (s,false)) u=loopP F.length (fun s=>if itemB F s=true then (if comes F [121] (nodeP 15 (itemP F L) s)=true then (linesP F (nextP (nodeP 15 (itemP F L) s)),true) else (nodeP 15 (itemP F L) s,false)) else (s,false)) (linesP F (wantP F 107 (linesP F (wordP F s)))) by have h1:=HU.out;rw[if_pos rfl] at h1;exact h1)
     clear HU
     have q1:=next_dr hF hup [40] (by decide) hz.m
     have q2:=next_dr hF hup [122] (by decide) hz.m
     have hi:itemB F u=(comes F [40] u||isW F u.p && !comes F [122] u):=by unfold itemB;rw[comes_1,comes_1];rfl
     have key:comes F [40] u=true∨(comes F [40] u=false∧u.p<F.length∧isW F u.p=true∧comes F [122] u=false)∨(comes F [40] u=false∧u.p<F.length∧isW F u.p=true∧comes F [122] u=true)∨(comes F [40] u=false∧u.p<F.length∧isW F u.p=false)∨(comes F [40] u=false∧¬u.p<F.length):=by
       by_cases hl:u.p<F.length<;>cases comes F [40] u<;>cases isW F u.p<;>cases comes F [122] u<;>simp[hl]
     rcases key with h1|⟨h1,hlu,hw,h2⟩|⟨h1,hlu,hw,h2⟩|⟨h1,hlu,hw⟩|⟨h1,hlu⟩
     case' inl=>
       have hib:itemB F u=true:=by rw[hi,h1];rfl
       rw[h1] at q1
     case' inr.inl=>
       have hib:itemB F u=true:=by rw[hi,h1,hw,h2];rfl
       rw[h1] at q1
       rw[h2] at q2
       obtain⟨x2,hx2⟩:∃x,F[u.p]? = some x:=⟨_,List.getElem?_eq_getElem hlu⟩
       obtain⟨g2,o2,c2,z0,z3,z1,z2⟩:=hz.m.wc hx2
       have ul:(u.p:Int)<(F.length:Int):=by omega
       have d2:decide ((u.p:Int)<(F.length:Int))=true:=decide_eq_true ul
       rw[isW_at hx2] at hw
     case' inr.inr.inl=>
       have hib:itemB F u=false:=by rw[hi,h1,hw,h2];rfl
       rw[h1] at q1
       rw[h2] at q2
       obtain⟨x2,hx2⟩:∃x,F[u.p]? = some x:=⟨_,List.getElem?_eq_getElem hlu⟩
       obtain⟨g2,o2,c2,z0,z3,z1,z2⟩:=hz.m.wc hx2
       have ul:(u.p:Int)<(F.length:Int):=by omega
       have d2:decide ((u.p:Int)<(F.length:Int))=true:=decide_eq_true ul
       rw[isW_at hx2] at hw
       have HX:=Lib.hid (show u=loopP F.length (fun s=>if itemB F s=true then (if comes F [121] (nodeP 15 (itemP F L) s)=true then (linesP F (nextP (nodeP 15 (itemP F L) s)),true) else (nodeP 15 (itemP F L) s,false)) else (s,false)) (linesP F (wantP F 107 (linesP F (wordP F s)))) by
         rw[←HV.out]
         exact(LC.gon (cases_c hL) hBu.p (by show (if _ then _ else _)=_;rw[if_neg (by rw[hib];decide)])).symm)
     case' inr.inr.inr.inl=>
       have hib:itemB F u=false:=by rw[hi,h1,hw];rfl
       rw[h1] at q1
       obtain⟨x2,hx2⟩:∃x,F[u.p]? = some x:=⟨_,List.getElem?_eq_getElem hlu⟩
       obtain⟨g2,o2,c2,z0,z3,z1,z2⟩:=hz.m.wc hx2
       have ul:(u.p:Int)<(F.length:Int):=by omega
       have d2:decide ((u.p:Int)<(F.length:Int))=true:=decide_eq_true ul
       rw[isW_at hx2] at hw
       have HX:=Lib.hid (show u=loopP F.length (fun s=>if itemB F s=true then (if comes F [121] (nodeP 15 (itemP F L) s)=true then (linesP F (nextP (nodeP 15 (itemP F L) s)),true) else (nodeP 15 (itemP F L) s,false)) else (s,false)) (linesP F (wantP F 107 (linesP F (wordP F s)))) by
         rw[←HV.out]
         exact(LC.gon (cases_c hL) hBu.p (by show (if _ then _ else _)=_;rw[if_neg (by rw[hib];decide)])).symm)
     case' inr.inr.inr.inr=>
       have hib:itemB F u=false:=by rw[hi,h1,isW_out hlu];rfl
       rw[h1] at q1
       obtain⟨A2,c2,z0,z3⟩:=hz.m.fc
       have d2:decide ((u.p:Int)<(F.length:Int))=false:=decide_eq_false (by omega)
       have HX:=Lib.hid (show u=loopP F.length (fun s=>if itemB F s=true then (if comes F [121] (nodeP 15 (itemP F L) s)=true then (linesP F (nextP (nodeP 15 (itemP F L) s)),true) else (nodeP 15 (itemP F L) s,false)) else (s,false)) (linesP F (wantP F 107 (linesP F (wordP F s)))) by
         rw[←HV.out]
         exact(LC.gon (cases_c hL) hBu.p (by show (if _ then _ else _)=_;rw[if_neg (by rw[hib];decide)])).symm)
     all_goals (
       have HQ:=Lib.hid (And.intro q1 q2)
       clear hz q1 q2 hi
       go_wp2_with fail
       go_quiet (first
         | (go_at_call 31
            with_reducible exact HQ.out.1 _)
         | (go_at_call 31
            with_reducible exact HQ.out.2 _)
         | fail)
       have UQ:=Lib.hid (U0.out.drew nq))
     case true.inr.inr.inl|true.inr.inr.inr.inl|true.inr.inr.inr.inr=>
       go_wp2_with (
         (go_at_call 117
          with_reducible refine Ny.go UQ (want_q hF (hBu.mono (by omega)) 122 (by decide)) fun w6 H6=>?_))
       first|go_end0|refine bodyPost_ret (results_none rfl _ _ _) rfl ?_
       exact⟨rfl,by rw[HT.out,←HX.out];exact H6.out⟩
     case' true.inl=>
       have hgi:=item_go hL hib
       have hB8:=hBu.gd hgi.1
       have hq8:q≤(nodeP 15 (itemP F L) u).p:=Nat.le_trans hqu hgi.1.p
       have hpl:=hgi.2
       have hbp:=hB8.p
       have hBi:=hBu.inn 15
       have hgt:=gd_take (F:=F) (cs:=[40]) (by decide) hBi.p
       have hBt:=hBi.gd hgt
       have hgw:=gd_word (F:=F) hBt.p
       have hBw:=hBt.gd hgw
       have hqw:q≤(wordP F (takeP F [40] (inN 15 u))).p:=Nat.le_trans hqu (Nat.le_trans hgt.p hgw.p)
       have HGI:=Lib.hid (gd_item hL hBi.p)
       have hi5:(inN 15 u).p≤100000:=by show u.p≤_;omega
       have HK:=Lib.hid (show takeP F [40] (inN 15 u)=nextP (inN 15 u) from take_y h1)
       have h1i:comes F [40] (inN 15 u)=true:=h1
       go_wp2_with (first
         | (go_at_call 158
            with_reducible refine Ny.go (Ny.cast A2 HK.out) (word_q hF (hBt.mono (by omega))) fun a3 A3=>?_)
         | (go_at_call 31
            with_reducible refine Ny.inc A1 (hi5) (next_q true hF hBi.p [40] (by decide) h1i) fun a2 ga2 da2 ka2 va2 A2=>?_)
         | (go_at_call 30
            with_reducible refine Ny.go UQ (begin_q hF 15 (by decide) (hBu.mono (by omega))) fun a1 A1=>?_)
         | fail)
     case' true.inr.inl=>
       have hgi:=item_go hL hib
       have hB8:=hBu.gd hgi.1
       have hq8:q≤(nodeP 15 (itemP F L) u).p:=Nat.le_trans hqu hgi.1.p
       have hpl:=hgi.2
       have hbp:=hB8.p
       have hBi:=hBu.inn 15
       have hgt:=gd_take (F:=F) (cs:=[40]) (by decide) hBi.p
       have hBt:=hBi.gd hgt
       have hgw:=gd_word (F:=F) hBt.p
       have hBw:=hBt.gd hgw
       have hqw:q≤(wordP F (takeP F [40] (inN 15 u))).p:=Nat.le_trans hqu (Nat.le_trans hgt.p hgw.p)
       have HGI:=Lib.hid (gd_item hL hBi.p)
       have hi5:(inN 15 u).p≤100000:=by show u.p≤_;omega
       have HK:=Lib.hid (show takeP F [40] (inN 15 u)=inN 15 u from take_n h1)
       have h1i:comes F [40] (inN 15 u)=false:=h1
       go_wp2_with (first
         | (go_at_call 158
            with_reducible refine Ny.go (Ny.cast A2 HK.out) (word_q hF (hBt.mono (by omega))) fun a3 A3=>?_)
         | (go_at_call 31
            with_reducible refine Ny.go A1 (next_q false hF hBi.p [40] (by decide) h1i) fun a2 A2=>?_)
         | (go_at_call 30
            with_reducible refine Ny.go UQ (begin_q hF 15 (by decide) (hBu.mono (by omega))) fun a1 A1=>?_)
         | fail)
     all_goals (
       rename_i wro
       go_loopw [] (fun wr=>∃z:Ps,q≤z.p∧Bd F 7 z∧loopP F.length (fun s=>if comes F [124] s=true then (wordP F (nextP s),true) else (s,false)) z=loopP F.length (fun s=>if comes F [124] s=true then (wordP F (nextP s),true) else (s,false)) (wordP F (takeP F [40] (inN 15 u)))∧Ny g fv F W z wr) (fun wr=>F.length-pOn g wr)
       case atStart=>exact⟨_,hqw,hBw,rfl,A3.out⟩
       case round=>
         obtain⟨z,hqz,hBz,hlz,hz⟩:=hrel
         have Z0:=Lib.hid hz
         have HZ:=Lib.hid hlz
         have ZP:=Lib.hid hz.m.pOn
         have hzp:=hBz.p
         clear hz hlz
         cases hc:comes F [124] z
         ·have HE:=Lib.hid (HZ.out.symm.trans (LC.gon item_c hBz.p (t:=z) (by show (if _ then _ else _)=_;rw[if_neg (by rw[hc];decide)])))
          have hg5:=gd_want (F:=F) (c:=41) (by decide) hBz.p
          have hB5:=hBz.gd hg5
          have hg6:=gd_lines (F:=F) hB5.p
          have hB6:=hB5.gd hg6
          have hq6:q≤(linesP F (wantP F 41 z)).p:=Nat.le_trans hqz (Nat.le_trans hg5.p hg6.p)
          cases hd:pipeB F (linesP F (wantP F 41 z))
          case' false=>
            have HF:=Lib.hid (show itemP F L (inN 15 u)=linesP F (wantP F 41 z) by unfold itemP;rw[HE.out];simp only[hd,if_false,Bool.false_eq_true])
          case' true=>
            have HF:=Lib.hid (show itemP F L (inN 15 u)=nodeP 2 L (linesP F (wantP F 41 z)) by unfold itemP;rw[HE.out];simp only[hd,if_true])
          all_goals (
            cases hy:comes F [121] (nodeP 15 (itemP F L) u)
            case' true=>
              have hltv:=comes_lt hy (by decide)
              have hn8:=hB8.next hltv (by omega)
              have hg9:=gd_lines (F:=F) hn8.p
              have hB9:=hn8.gd hg9
              have hq9:q≤(linesP F (nextP (nodeP 15 (itemP F L) u))).p:=Nat.le_trans hq8 (Nat.le_trans (Nat.le_succ _) hg9.p)
            all_goals (
              go_wp2_with (first
                | (go_at_call 54
                   with_reducible refine Ny.go N8a (lines_q hF hn8.p) fun m7 N9=>?_)
                | (go_at_call 31
                   with_reducible refine Ny.go N8 (next_q false hF hB8.p [121] (by decide) hy) fun m6 N8a=>?_)
                | (go_at_call 31
                   with_reducible refine Ny.inc N8 (by omega) (next_q true hF hB8.p [121] (by decide) hy) fun m6 gm6 dm6 km6 vm6 N8a=>?_)
                | (go_at_call 35
                   with_reducible refine Ny.go (Ny.cast M3 HF.out) (end_q hF 15 (itemP F L) (by decide) (hBu.mono (by omega)) HGI.out (by omega)) fun m5 N8=>?_)
                | (go_at_call 35
                   with_reducible refine Ny.go (Ny.cast M4 HF.out) (end_q hF 15 (itemP F L) (by decide) (hBu.mono (by omega)) HGI.out (by omega)) fun m5 N8=>?_)
                | (go_at_call 33
                   with_reducible refine Ny.go M3 (list_q HL hq6 (hB6.mono (by omega)) hd) fun m4 M4=>?_)
                | (go_at_call 32
                   with_reducible refine Ny.go M2 (pipe_q hF _ hB6.p hd) fun m3 M3=>?_)
                | (go_at_call 54
                   with_reducible refine Ny.go M1 (lines_q hF hB5.p) fun m2 M2=>?_)
                | (go_at_call 117
                   with_reducible refine Ny.go Z1 (want_q hF (hBz.mono (by omega)) 41 (by decide)) fun m1 M1=>?_)
                | (go_at_call 31
                   with_reducible refine Ny.go Z0 (next_q false hF hBz.p [124] (by decide) hc) fun m0 Z1=>?_)
                | fail))
            ·have hX:loopP F.length (fun s=>if itemB F s=true then (if comes F [121] (nodeP 15 (itemP F L) s)=true then (linesP F (nextP (nodeP 15 (itemP F L) s)),true) else (nodeP 15 (itemP F L) s,false)) else (s,false)) (linesP F (nextP (nodeP 15 (itemP F L) u)))=loopP F.length (fun s=>if itemB F s=true then (if comes F [121] (nodeP 15 (itemP F L) s)=true then (linesP F (nextP (nodeP 15 (itemP F L) s)),true) else (nodeP 15 (itemP F L) s,false)) else (s,false)) (linesP F (wantP F 107 (linesP F (wordP F s)))):=by
               rw[←HV.out]
               exact(LC.goy (cases_c hL) hBu.p (by show (if _ then (if _ then _ else _) else _)=_;rw[if_pos hib,if_pos hy])).symm
             refine⟨⟨_,true,rfl,hq9,hB9.mono (by omega),by rw[if_pos rfl];exact hX,N9.out⟩,?_⟩
             rw[N9.out.m.pOn,HP.out]
             have h1:=hg9.p
             have h2:(nextP (nodeP 15 (itemP F L) u)).p=(nodeP 15 (itemP F L) u).p+1:=rfl
             have:=hB9.p
             omega
            ·have hX:nodeP 15 (itemP F L) u=loopP F.length (fun s=>if itemB F s=true then (if comes F [121] (nodeP 15 (itemP F L) s)=true then (linesP F (nextP (nodeP 15 (itemP F L) s)),true) else (nodeP 15 (itemP F L) s,false)) else (s,false)) (linesP F (wantP F 107 (linesP F (wordP F s)))):=by
               rw[←HV.out]
               exact(LC.gon (cases_c hL) hBu.p (by show (if _ then (if _ then _ else _) else _)=_;rw[if_pos hib,if_neg (by rw[hy];decide)])).symm
             refine⟨⟨_,false,rfl,hq8,hB8.mono (by omega),by rw[if_neg (by decide)];exact hX,N8a.out⟩,?_⟩
             rw[N8a.out.m.pOn,HP.out]
             have:=hB8.p
             omega)
         ·have hltz:=comes_lt hc (by decide)
          have hnz:=hBz.next hltz (by omega)
          have hgz:=gd_word (F:=F) hnz.p
          have hy2:=(item_c (F:=F) z hBz.p).yy (t:=wordP F (nextP z)) (by rw[if_pos hc])
          have HE:=Lib.hid ((LC.goy item_c hBz.p (t:=wordP F (nextP z)) (by show (if _ then _ else _)=_;rw[if_pos hc])).symm.trans HZ.out)
          go_wp2_with (first
            | (go_at_call 158
               with_reducible refine Ny.go K1 (word_q hF (hnz.mono (by omega))) fun k2 K2=>?_)
            | (go_at_call 31
               with_reducible refine Ny.inc Z0 (by omega) (next_q _ hF hBz.p [124] (by decide) hc) fun k1 gk1 dk1 kk1 vk1 K1=>?_)
            | fail)
          refine⟨⟨_,Nat.le_trans hqz (Nat.le_of_lt hy2.2),hBz.gd hy2.1,HE.out,K2.out⟩,?_⟩
          rw[K2.out.m.pOn,ZP.out]
          have:=hy2.2
          have:=hy2.1.N
          omega)
end
end Go.Proofs.YtokmnkmpdnlnaaaGreatDoor
