/- The reference's parser: nodes; redirections, bodies. -/
import Derived.Test.YtokmnkmpdnlnaaaGreatDoorNh13
namespace Go.Proofs.YtokmnkmpdnlnaaaGreatDoor
open Go.RowKit
set_option linter.unusedVariables false
set_option linter.unusedSimpArgs false
set_option maxRecDepth 100000
theorem Ny.nxt {g:Nat} {fv:Value} {F:List Lf} {s:Ps} {W W1:World} (U:Hid (Ny g fv F W s W1)) (z:Int) (hz:z=(s.p:Int)+1):Hid (Ny g fv F W (nextP s) (W1.setCell ⟨g,3,none⟩ (.int .i64 z))):=by
  subst hz
  exact U.out.setP (s.p+1)
theorem Ny.inc3 {g:Nat} {fv:Value} {F:List Lf} {s:Ps} {W W1:World} (U:Hid (Ny g fv F W s W1)):g<W1.heap.size∧W1.cell? ⟨g,3,none⟩=some (.int .i64 (s.p:Int))∧W1.frozen? ⟨g,3,none⟩=false:=by
  obtain⟨⟨_,_,d3,_,_⟩,_,e3,_,_⟩:=U.out.m.cells
  exact⟨U.out.m.lt,d3,e3⟩
theorem Ny.cast {g:Nat} {fv:Value} {F:List Lf} {s t:Ps} {W W1:World} (U:Hid (Ny g fv F W s W1)) (e:t=s):Hid (Ny g fv F W t W1):=by rw[e];exact U
theorem inN_p (k:Nat) (s:Ps):(inN k s).p=s.p:=rfl
theorem inN_l (k:Nat) (s:Ps):(inN k s).l.length=s.l.length+1:=by show (s.l++[_]).length=_;simp
section
variable {g:Nat} {fv:Value} {F:List Lf} {s:Ps} {W:World} (hF:FB F)
include hF
theorem begin_q (k:Nat) (hk:(decide (k≤18) && !nestB k)=true) (hB:Bd F 100 s) (h:Nk g fv F s W) :
    Calls Tryz.prog 30 #[.pointer (some ⟨g,0,none⟩),.int .i64 (k:Int)] W fun e w'=>e=.returned (.int .i64 s.up)∧Ny g fv F W (inN k s) w':=by
  simp only[Bool.and_eq_true,decide_eq_true_eq,Bool.not_eq_true'] at hk
  exact begin_n k hk.2 h (hB.l5 hF (by omega)) hk.1 (by have:=hB.d;omega)
theorem end_q (k:Nat) (f:Ps→Ps) (hk:nestB k=false) (hB:Bd F 100 s) {B:Nat} (hG:Gd F.length B (inN k s) (f (inN k s))) (hb:B≤1000) (h:Nk g fv F (f (inN k s)) W) :
    Calls Tryz.prog 35 #[.pointer (some ⟨g,0,none⟩),.int .i64 s.up] W fun e w'=>e=.returned (.tuple #[])∧Ny g fv F W (nodeP k f s) w':=by
  have h1:=hG.b
  rw[inN_l] at h1
  have:=hB.l5 hF (by omega)
  have:=hG.N
  have:=hF.n
  exact end_n k f hk hG h (by omega) (by have:=hB.d;omega)
theorem beginx_q (k:Nat) (hk:(decide (k≤18)&&nestB k)=true) (hB:Bd F 100 s) (h:Nk g fv F s W) :
    Calls Tryz.prog 30 #[.pointer (some ⟨g,0,none⟩),.int .i64 (k:Int)] W fun e w'=>e=.returned (.int .i64 s.up)∧Ny g fv F W (inN k {s with deep:=s.deep+1}) w':=by
  simp only[Bool.and_eq_true,decide_eq_true_eq] at hk
  exact begin_x k hk.2 h (hB.l5 hF (by omega)) hk.1 (by have:=hB.d;omega)
theorem endx_q (k:Nat) (f:Ps→Ps) (hk:nestB k=true) (hB:Bd F 100 s) {B:Nat} (hG:Gd F.length B (inN k {s with deep:=s.deep+1}) (f (inN k {s with deep:=s.deep+1}))) (hb:B≤1000) (h:Nk g fv F (f (inN k {s with deep:=s.deep+1})) W) :
    Calls Tryz.prog 35 #[.pointer (some ⟨g,0,none⟩),.int .i64 s.up] W fun e w'=>e=.returned (.tuple #[])∧Ny g fv F W (nestP k f s) w':=by
  have h1:=hG.b
  rw[inN_l] at h1
  have h2:({s with deep:=s.deep+1}:Ps).l.length=s.l.length:=rfl
  have:=hB.l5 hF (by omega)
  have:=hG.N
  have:=hF.n
  exact end_x k f hk hG h (by omega) (by have:=hB.d;omega)
set_option maxHeartbeats 2000000 in
theorem redirect_q (hB:Bd F 99 s) (hb:redirB F s=true) (h:Nk g fv F s W) :
    Calls Tryz.prog 118 #[.pointer (some ⟨g,0,none⟩)] W fun e w'=>e=.returned (.tuple #[])∧Ny g fv F W (redirP F s) w':=by
  have hn:=hF.n
  have hp:=hB.p
  have hi:=hB.inn 8
  have hi5:(inN 8 s).p≤100000:=by show s.p≤_;omega
  have hw1:=gd_take (F:=F) (cs:=[35]) (by decide) hi.p
  have hw2:=gd_take (F:=F) (cs:=[60]) (by decide) hw1.N
  have hw3:=gd_word (F:=F) hw2.N
  have hG:=(hw1.trans hw2).trans hw3
  have H0:=Lib.hid (Ny.start h)
  clear h
  cases ha:comes F [35] (inN 8 s)
  ·have e1:takeP F [35] (inN 8 s)=inN 8 s:=take_n ha
   have e2:takeP F [60] (inN 8 s)=nextP (inN 8 s):=take_y (by
     rw[comes_1] at ha ⊢
     have h0:sg F (inN 8 s).p=sg F s.p:=rfl
     rw[h0] at ha ⊢
     unfold redirB at hb
     rw[ha,Bool.false_and,Bool.or_false] at hb
     exact hb)
   obtain⟨f,hf⟩:∃f:Ps→Ps,f=fun s=>wordP F (takeP F [60] (takeP F [35] s)):=⟨_,rfl⟩
   have hx:redirP F s=nodeP 8 f s:=by rw[hf];rfl
   have hB2:Bd F 100 (nextP (inN 8 s)):=⟨by show s.p+1≤_;exact redir_lt hb,by have:=hi.l;show _≤46*(s.p+1)+100;have:(nextP (inN 8 s)).l.length=(inN 8 s).l.length:=rfl;have:(inN 8 s).p=s.p:=rfl;omega,hB.d⟩
   rw[e1,e2] at hG
   rw[hx]
   have HE:=Lib.hid (show f (inN 8 s)=wordP F (nextP (inN 8 s)) by rw[hf];simp only;rw[e1,e2])
   have HG:=Lib.hid (show Gd F.length _ (inN 8 s) (f (inN 8 s)) by rw[HE.out];exact hG)
   clear hw1 hw2 hw3 e1 e2 hx hG hf
   go_enter Tryz.func118,Tryz.ntmps118
   go_wp2_with (first
     | (go_at_call 30
        with_reducible refine Ny.go H0 (begin_q hF 8 (by decide) (hB.mono (by omega))) fun w1 H1=>?_)
     | (go_at_call 31
        with_reducible refine Ny.inc H1 hi5 (next_q _ hF hi.p [35] (by decide) ha) fun w2 hg2 d2 k2 v2 H2=>?_)
     | (go_at_call 158
        with_reducible refine Ny.go H2 (word_q hF hB2) fun w3 H3=>?_)
     | (go_at_call 35
        with_reducible refine Ny.go (Ny.cast H3 HE.out) (end_q hF 8 f (by decide) (hB.mono (by omega)) HG.out (by omega)) fun w4 H4=>?_)
     | fail)
   first|go_end0|refine bodyPost_ret (results_none rfl _ _ _) rfl ?_
   exact⟨rfl,H4.out⟩
  ·have hlt:s.p<F.length:=redir_lt hb
   have e1:takeP F [35] (inN 8 s)=nextP (inN 8 s):=take_y ha
   have h60:sg F (s.p+1)=60:=by
     rw[comes_1] at ha
     have h0:sg F (inN 8 s).p=sg F s.p:=rfl
     rw[h0] at ha
     unfold redirB at hb
     rw[ha,Bool.true_and] at hb
     have h1:sg F s.p=35:=by simpa using ha
     rw[h1] at hb
     simpa using hb
   have hlt2:s.p+1<F.length:=sg_lt (by rw[h60];decide)
   have e2:takeP F [60] (nextP (inN 8 s))=nextP (nextP (inN 8 s)):=take_y (by rw[comes_1];show (sg F (s.p+1)==60)=true;rw[h60];rfl)
   obtain⟨f,hf⟩:∃f:Ps→Ps,f=fun s=>wordP F (takeP F [60] (takeP F [35] s)):=⟨_,rfl⟩
   have hx:redirP F s=nodeP 8 f s:=by rw[hf];rfl
   have hB2:Bd F 100 (nextP (nextP (inN 8 s))):=⟨by show s.p+1+1≤_;omega,by have:=hi.l;show _≤46*(s.p+1+1)+100;have:(nextP (nextP (inN 8 s))).l.length=(inN 8 s).l.length:=rfl;have:(inN 8 s).p=s.p:=rfl;omega,hB.d⟩
   rw[e1,e2] at hG
   rw[hx]
   have HE:=Lib.hid (show f (inN 8 s)=wordP F (nextP (nextP (inN 8 s))) by rw[hf];simp only;rw[e1,e2])
   have v3:IntKind.i64.wrap ((s.p:Int)+1+1)=(s.p:Int)+1+1:=IntWalk.i64_in _ (by omega)
   have HG:=Lib.hid (show Gd F.length _ (inN 8 s) (f (inN 8 s)) by rw[HE.out];exact hG)
   clear hw1 hw2 hw3 e1 e2 hx hG hf
   go_enter Tryz.func118,Tryz.ntmps118
   go_wp2_with (first
     | (go_at_call 30
        with_reducible refine Ny.go H0 (begin_q hF 8 (by decide) (hB.mono (by omega))) fun w1 H1=>?_)
     | (go_at_call 31
        with_reducible refine Ny.inc H1 hi5 (next_q _ hF hi.p [35] (by decide) ha) fun w2 hg2 d2 k2 v2 H2=>?_
        have H2':=Ny.nxt H2 ((s.p:Int)+1+1) rfl)
     | (go_at_call 158
        with_reducible refine Ny.go H2' (word_q hF hB2) fun w3 H3=>?_)
     | (go_at_call 35
        with_reducible refine Ny.go (Ny.cast H3 HE.out) (end_q hF 8 f (by decide) (hB.mono (by omega)) HG.out (by omega)) fun w4 H4=>?_)
     | fail)
   first|go_end0|refine bodyPost_ret (results_none rfl _ _ _) rfl ?_
   exact⟨rfl,H4.out⟩
end
def ListR (g:Nat) (fv:Value) (F:List Lf) (L:Ps→Ps) (q:Nat):Prop:=∀(s:Ps) (W:World),q≤s.p→Bd F 19 s→pipeB F s=true→Nk g fv F s W →
  Calls Tryz.prog 33 #[.pointer (some ⟨g,0,none⟩)] W fun e w'=>e=.returned (.tuple #[])∧Ny g fv F W (nodeP 2 L s) w'
theorem list_q {g:Nat} {fv:Value} {F:List Lf} {L:Ps→Ps} {q:Nat} {s:Ps} {W:World} (HL:ListR g fv F L q) (hq:q≤s.p) (hB:Bd F 19 s) (hb:pipeB F s=true) (h:Nk g fv F s W) :
    Calls Tryz.prog 33 #[.pointer (some ⟨g,0,none⟩)] W fun e w'=>e=.returned (.tuple #[])∧Ny g fv F W (nodeP 2 L s) w':=HL s W hq hB hb h
section
variable {g:Nat} {fv:Value} {F:List Lf} {L:Ps→Ps} {q:Nat} {s:Ps} {W:World} (hF:FB F) (hL:GL F L) (HL:ListR g fv F L q)
include hF HL
set_option maxHeartbeats 1000000 in
theorem body_q (hq:q≤s.p) (hB:Bd F 14 s) (h:Nk g fv F s W) :
    Calls Tryz.prog 154 #[.pointer (some ⟨g,0,none⟩)] W fun e w'=>e=.returned (.tuple #[])∧Ny g fv F W (bodyP F L s) w':=by
  have hp:=hB.p
  have hg1:=gd_lines (F:=F) hp
  have hB1:=hB.gd hg1
  have hq1:q≤(linesP F s).p:=Nat.le_trans hq hg1.p
  have H0:=Lib.hid (Ny.start h)
  clear h
  unfold bodyP
  cases hb:pipeB F (linesP F s)
  case' false=>rw[if_neg (by decide)]
  case' true=>rw[if_pos rfl]
  all_goals (
    go_enter Tryz.func154,Tryz.ntmps154
    go_wp2_with (first
      | (go_at_call 54
         with_reducible refine Ny.go H0 (lines_q hF hp) fun w1 H1=>?_)
      | (go_at_call 32
         with_reducible refine Ny.go H1 (pipe_q hF _ hB1.p hb) fun w2 H2=>?_)
      | (go_at_call 33
         with_reducible refine Ny.go H2 (list_q HL hq1 (hB1.mono (by omega)) hb) fun w3 H3=>?_)
      | (go_at_call 71
         with_reducible refine Ny.go H2 (none_q hF (hB1.mono (by omega))) fun w3 H3=>?_)
      | fail)
    first|go_end0|refine bodyPost_ret (results_none rfl _ _ _) rfl ?_
    exact⟨rfl,H3.out⟩)
include hL
set_option maxHeartbeats 1000000 in
theorem done_q (hq:q≤s.p) (hB:Bd F 9 s) (h:Nk g fv F s W) :
    Calls Tryz.prog 155 #[.pointer (some ⟨g,0,none⟩)] W fun e w'=>e=.returned (.tuple #[])∧Ny g fv F W (doP F L s) w':=by
  have hg1:=gd_want (F:=F) (c:=100) (by decide) hB.p
  have hB1:=hB.gd hg1
  have hq1:=Nat.le_trans hq hg1.p
  have hB2:=hB1.gd (gd_body hL hB1.p)
  have H0:=Lib.hid (Ny.start h)
  clear h
  unfold doP
  go_enter Tryz.func155,Tryz.ntmps155
  go_wp2_with (first
    | (go_at_call 117
       with_reducible refine Ny.go H2 (want_q hF (hB2.mono (by omega)) 103 (by decide)) fun w3 H3=>?_)
    | (go_at_call 154
       with_reducible refine Ny.go H1 (body_q hF HL hq1 (hB1.mono (by omega))) fun w2 H2=>?_)
    | (go_at_call 117
       with_reducible refine Ny.go H0 (want_q hF (hB.mono (by omega)) 100 (by decide)) fun w1 H1=>?_)
    | fail)
  first|go_end0|refine bodyPost_ret (results_none rfl _ _ _) rfl ?_
  exact⟨rfl,H3.out⟩
end
end Go.Proofs.YtokmnkmpdnlnaaaGreatDoor
