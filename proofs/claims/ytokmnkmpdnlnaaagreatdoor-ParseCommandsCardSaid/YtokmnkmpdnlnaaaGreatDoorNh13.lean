/- The reference's parser: does a compound, a command, a pipe begin? Signs that are wanted, words, newlines. -/
import Derived.Test.YtokmnkmpdnlnaaaGreatDoorNg13
namespace Go.Proofs.YtokmnkmpdnlnaaaGreatDoor
open Go.RowKit
set_option linter.unusedVariables false
set_option linter.unusedSimpArgs false
set_option maxRecDepth 100000
theorem Nk.fc {g:Nat} {fv:Value} {F:List Lf} {s:Ps} {W:World} (h:Nk g fv F s W):∃A c,W.cell? ⟨g,0,none⟩=some (.slice A F.length c)∧W.cell? ⟨g,3,none⟩=some (.int .i64 (s.p:Int)):=by
  obtain⟨⟨c0,_,c3,_,_⟩,_⟩:=h.cells
  obtain⟨A,c,rfl⟩:=h.f.formm
  exact⟨A,c,c0,c3⟩
theorem Nk.wc {g:Nat} {fv:Value} {F:List Lf} {s:Ps} {W:World} (h:Nk g fv F s W) {x:Lf} (hx:F[s.p]? = some x):∃g1 o1 c,W.cell? ⟨g,0,none⟩=some (.slice (some ⟨g1,o1,none⟩) F.length c)∧W.cell? ⟨g,3,none⟩=some (.int .i64 (s.p:Int)) ∧
    W.cell? ⟨g1,o1+s.p*4,none⟩=some (.int .i64 x.kd)∧W.cell? ⟨g1,o1+s.p*4+1,none⟩=some (.string ⟨x.tx.toArray⟩):=by
  obtain⟨⟨c0,_,c3,_,_⟩,_⟩:=h.cells
  obtain⟨A,c,rfl⟩:=h.f.formm
  obtain⟨g1,o1,rfl,y0,y1,_,_⟩:=lf_cells h.f hx rfl
  exact⟨g1,o1,c,c0,c3,y0,y1⟩
section
variable {g:Nat} {fv:Value} {F:List Lf} {s:Ps} {W:World} (hF:FB F)
include hF
theorem redirs_q (b:Bool) (hs:s.p≤F.length) (hb:redirB F s=b) (h:Nk g fv F s W) :
    Calls Tryz.prog 74 #[.pointer (some ⟨g,0,none⟩)] W fun e w'=>e=.returned (.bool b)∧Ny g fv F W s w':=by
  rw[←hb]
  exact(redirs_r hF hs h).mono fun e w' ⟨h1,n,h2⟩=>⟨h1,by rw[h2];exact(Ny.start h).drew n⟩
set_option maxHeartbeats 1000000 in
theorem comp_q (b:Bool) (hs:s.p≤F.length) (hb:compB F s=b) (h:Nk g fv F s W) :
    Calls Tryz.prog 75 #[.pointer (some ⟨g,0,none⟩)] W fun e w'=>e=.returned (.bool b)∧Ny g fv F W s w':=by
  rw[←hb]
  unfold compB
  have H0:=Lib.hid (Ny.start h)
  clear h hb
  obtain⟨d,hd⟩:∃d,d=decide (s.deep<200):=⟨_,rfl⟩
  have hd2:decide ((s.deep:Int)<200)=d:=by rw[hd];exact decide_eq_decide.2 (by omega)
  obtain⟨z,hz⟩:∃z:Int,z=(s.deep:Int):=⟨_,rfl⟩
  rw[←hz] at hd2
  rw[←hd]
  cases ha:comes F [123,40,105,119,114,99] s
  all_goals (
    have HA:=Lib.hid (And.intro ha hz)
    clear ha hd hz
    go_enter Tryz.func75,Tryz.ntmps75
    go_wp2_with (
      (go_at_call 31
       with_reducible refine Ny.go H0 (next_q _ hF hs [123,40,105,119,114,99] (by decide) HA.out.1) fun w1 H1=>?_
       obtain⟨⟨_,_,_,_,d5⟩,_⟩:=H1.out.m.cells
       rw[←HA.out.2] at d5))
    go_ret
    exact⟨by simp[Bool.and_comm],H1.out⟩)
set_option maxHeartbeats 1000000 in
theorem cmd_q (b:Bool) (hs:s.p≤F.length) (hb:cmdB F s=b) (h:Nk g fv F s W) :
    Calls Tryz.prog 53 #[.pointer (some ⟨g,0,none⟩)] W fun e w'=>e=.returned (.bool b)∧Ny g fv F W s w':=by
  rw[←hb]
  unfold cmdB
  rw[←comes_1]
  have H0:=Lib.hid (Ny.start h)
  clear h hb
  cases ha:comes F [120] s
  case' false=>
    cases hr:redirB F s
    case' false=>cases hc:compB F s
  all_goals (
    go_enter Tryz.func53,Tryz.ntmps53
    go_wp2_with (first
      | (go_at_call 31
         with_reducible refine Ny.go H0 (next_q _ hF hs [120] (by decide) ha) fun w1 H1=>?_)
      | (go_at_call 74
         with_reducible refine Ny.go H1 (redirs_q hF _ hs hr) fun w2 H2=>?_)
      | (go_at_call 75
         with_reducible refine Ny.go H2 (comp_q hF _ hs hc) fun w3 H3=>?_)
      | fail)
    go_ret
    exact⟨rfl,by first|exact H3.out|exact H2.out|exact H1.out⟩)
set_option maxHeartbeats 1000000 in
theorem pipe_q (b:Bool) (hs:s.p≤F.length) (hb:pipeB F s=b) (h:Nk g fv F s W) :
    Calls Tryz.prog 32 #[.pointer (some ⟨g,0,none⟩)] W fun e w'=>e=.returned (.bool b)∧Ny g fv F W s w':=by
  rw[←hb]
  unfold pipeB
  rw[←comes_1]
  have H0:=Lib.hid (Ny.start h)
  clear h hb
  cases ha:comes F [33] s
  case' false=>cases hr:cmdB F s
  all_goals (
    go_enter Tryz.func32,Tryz.ntmps32
    go_wp2_with (first
      | (go_at_call 31
         with_reducible refine Ny.go H0 (next_q _ hF hs [33] (by decide) ha) fun w1 H1=>?_)
      | (go_at_call 53
         with_reducible refine Ny.go H1 (cmd_q hF _ hs hr) fun w2 H2=>?_)
      | fail)
    go_ret
    exact⟨rfl,by first|exact H2.out|exact H1.out⟩)
theorem none_q (hB:Bd F 100 s) (h:Nk g fv F s W):Calls Tryz.prog 71 #[.pointer (some ⟨g,0,none⟩)] W fun e w'=>e=.returned (.tuple #[])∧Ny g fv F W (missP s) w':=none_r hF h hB
theorem one_q {k:Nat} (hk:(decide (1≤k)&&decide (k≤17) && !nestB k)=true) (hB:Bd F 100 s) (hs:s.p<F.length) (h:Nk g fv F s W) :
    Calls Tryz.prog 34 #[.pointer (some ⟨g,0,none⟩),.int .i64 (k:Int)] W fun e w'=>e=.returned (.tuple #[])∧Ny g fv F W (leafP k s) w':=by
  simp only[Bool.and_eq_true,decide_eq_true_eq,Bool.not_eq_true'] at hk
  exact one_r k hk.1 hk.2 hF h hB hs
set_option maxHeartbeats 1000000 in
theorem want_q (hB:Bd F 100 s) (c:UInt8) (hc:c≠0) (h:Nk g fv F s W) :
    Calls Tryz.prog 117 #[.pointer (some ⟨g,0,none⟩),.string ⟨#[c]⟩] W fun e w'=>e=.returned (.tuple #[])∧Ny g fv F W (wantP F c s) w':=by
  have hn:=hF.n
  have hp:=hB.p
  have hc0:([c].contains 0||decide (1000<[c].length))=false:=by simp;exact fun e=>hc e.symm
  have H0:=Lib.hid (Ny.start h)
  clear h
  unfold wantP
  cases hb:comes F [c] s
  case' false=>
    rw[if_neg (by decide)]
  case' true=>
    rw[if_pos rfl]
  all_goals (
    go_enter Tryz.func117,Tryz.ntmps117)
  case false=>
    go_wp2_with (first
      | (go_at_call 31
         with_reducible refine Ny.go H0 (next_q _ hF hp [c] hc0 hb) fun w1 H1=>?_)
      | (go_at_call 71
         with_reducible refine Ny.go H1 (none_q hF hB) fun w2 H2=>?_)
      | fail)
    first|go_end0|refine bodyPost_ret (results_none rfl _ _ _) rfl ?_
    exact⟨rfl,H2.out⟩
  case true=>
    go_wp2_with (
      (go_at_call 31
       with_reducible refine Ny.inc H0 (by omega) (next_q _ hF hp [c] hc0 hb) fun w1 hg1 d1 e1 v1 H1=>?_))
    first|go_end0|refine bodyPost_ret (results_none rfl _ _ _) rfl ?_
    exact⟨rfl,H1.out⟩
set_option maxHeartbeats 1000000 in
theorem word_q (hB:Bd F 100 s) (h:Nk g fv F s W) :
    Calls Tryz.prog 158 #[.pointer (some ⟨g,0,none⟩)] W fun e w'=>e=.returned (.tuple #[])∧Ny g fv F W (wordP F s) w':=by
  have hn:=hF.n
  have hp:=hB.p
  have u2:(0:Int)≤(s.p:Int):=by omega
  have H0:=Lib.hid (Ny.start h)
  by_cases hlt:s.p<F.length
  case' pos=>
    obtain⟨x,hx⟩:∃x,F[s.p]? = some x:=⟨_,List.getElem?_eq_getElem hlt⟩
    obtain⟨g1,o1,c,y0,y3,y1,_⟩:=h.wc hx
    have hw:isW F s.p=(x.kd==6):=by unfold isW;rw[hx]
    have u1:(s.p:Int)<(F.length:Int):=by omega
    have d1:decide ((s.p:Int)<(F.length:Int))=true:=decide_eq_true u1
    clear h hx
    cases hk:(x.kd==6)
    case' true=>
      have e:wordP F s=leafP 7 s:=by unfold wordP;rw[hw,hk];rfl
    case' false=>
      have e:wordP F s=missP s:=by unfold wordP;rw[hw,hk];rfl
  case' neg=>
    obtain⟨A,c,y0,y3⟩:=h.fc
    have d1:decide ((s.p:Int)<(F.length:Int))=false:=decide_eq_false (by omega)
    have e:wordP F s=missP s:=by unfold wordP isW;rw[List.getElem?_eq_none (by omega)];rfl
    clear h
  all_goals (
    rw[e]
    clear e
    go_enter Tryz.func158,Tryz.ntmps158
    go_wp2
    go_quiet (fail)
    have H1:=Lib.hid (H0.out.drew nq)
    go_wp2_with (first
      | (go_at_call 34
         with_reducible refine Ny.go H1 (one_q hF (k:=7) (by decide) hB hlt) fun w2 H2=>?_)
      | (go_at_call 71
         with_reducible refine Ny.go H1 (none_q hF hB) fun w2 H2=>?_)
      | fail)
    first|go_end0|refine bodyPost_ret (results_none rfl _ _ _) rfl ?_
    exact⟨rfl,H2.out⟩)
def pOn (g:Nat) (w:World):Nat:=match w.cell? ⟨g,3,none⟩ with|some (.int _ p)=>p.toNat|_=>0
omit hF in
theorem Nk.pOn (h:Nk g fv F s W):Go.Proofs.YtokmnkmpdnlnaaaGreatDoor.pOn g W=s.p:=by
  unfold Go.Proofs.YtokmnkmpdnlnaaaGreatDoor.pOn
  rw[h.cells.1.2.2.1]
  exact Int.toNat_natCast _
def nlN (F:List Lf) (s:Ps):Nat:=(linesP F s).p-s.p
omit hF in
theorem nlN_y (hs:s.p≤F.length) (h:comes F [110] s=true):((nlN F s:Int)==0)=false:=by
  have h1:=comes_lt h (by decide)
  have h2:=LC.eq (lines_c (F:=F)) s hs
  simp only[h,if_true] at h2
  have h3:=(gd_lines (F:=F) (s:=nextP s) h1).p
  have h4:linesP F s=linesP F (nextP s):=h2
  refine beq_false_of_ne ?_
  unfold nlN
  rw[h4]
  have:s.p+1≤(linesP F (nextP s)).p:=h3
  omega
omit hF in
theorem nlN_n (hs:s.p≤F.length) (h:comes F [110] s=false):((nlN F s:Int)==0)=true∧linesP F s=s:=by
  have h2:=LC.eq (lines_c (F:=F)) s hs
  simp only[h,if_false,Bool.false_eq_true] at h2
  have h4:linesP F s=s:=h2
  refine⟨?_,h4⟩
  unfold nlN
  rw[h4,Nat.sub_self]
  rfl
set_option maxHeartbeats 1000000 in
theorem lines_q (hs:s.p≤F.length) (h:Nk g fv F s W) :
    Calls Tryz.prog 54 #[.pointer (some ⟨g,0,none⟩)] W fun e w'=>e=.returned (.int .i64 (nlN F s:Int))∧Ny g fv F W (linesP F s) w':=by
  have hn:=hF.n
  have H0:=Lib.hid (Ny.start h)
  have hm:(nlN F s:Int)=((linesP F s).p:Int)-(s.p:Int):=by
    have:=(gd_lines (F:=F) hs).p
    unfold nlN
    omega
  have HM:=Lib.hid hm
  clear h hm
  go_enter Tryz.func54,Tryz.ntmps54
  go_wp2_with fail
  go_loopw [3] (fun n wr=>∃u:Ps,u.p≤F.length∧s.p≤u.p∧n=.int .i64 ((u.p-s.p:Nat):Int)∧linesP F u=linesP F s∧Ny g fv F W u wr) (fun n wr=>F.length-pOn g wr)
  case atStart=>exact⟨s,hs,Nat.le_refl _,by rw[Nat.sub_self];rfl,rfl,H0.out⟩
  case round=>
    obtain⟨u,hu,hsu,rfl,hlu,hz⟩:=hrel
    have U0:=Lib.hid hz
    have HU:=Lib.hid (And.intro hlu hz.m.pOn)
    clear hlu hz
    obtain⟨k,hk⟩:∃k,k=u.p-s.p:=⟨_,rfl⟩
    rw[←hk]
    have hk9:k≤900:=by omega
    have HK:=Lib.hid hk
    clear hk
    have hl:=LC.eq (lines_c (F:=F)) u hu
    cases hb:comes F [110] u
    ·simp only[hb,if_false,Bool.false_eq_true] at hl
     have HL:=Lib.hid hl
     clear hl
     go_wp2_with (
       (go_at_call 31
        with_reducible refine Ny.go U0 (next_q _ hF hu [110] (by decide) hb) fun w1 H1=>?_))
     go_ret
     have e:linesP F s=u:=HU.out.1.symm.trans HL.out
     have h9:(nlN F s:Int)=(k:Int):=by
       rw[HM.out,e]
       have:=HK.out
       omega
     exact⟨by rw[h9];rfl,by rw[e];exact H1.out⟩
    ·simp only[hb,if_true] at hl
     have HL:=Lib.hid hl
     clear hl
     have hlt:=comes_lt hb (by decide)
     go_wp2_with (
       (go_at_call 31
        with_reducible refine Ny.inc U0 (by omega) (next_q _ hF hu [110] (by decide) hb) fun w1 hg1 d1 e1 v1 H1=>?_))
     refine⟨⟨nextP u,hlt,by show s.p≤u.p+1;omega,by show _=Value.int .i64 (((u.p+1)-s.p:Nat):Int);rw[show u.p+1-s.p=k+1 by rw[HK.out];omega];rfl,by rw[←HU.out.1];exact HL.out.symm,H1.out⟩,?_⟩
     rw[H1.out.m.pOn,HU.out.2]
     show F.length-(u.p+1)<F.length-u.p
     omega
end
end Go.Proofs.YtokmnkmpdnlnaaaGreatDoor
