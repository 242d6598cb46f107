/- The parser's plain law: two rows of leaves without Errors and Missings, with a newline between them, have none together, and as many nodes of a Pipe as both. No program is in sight. -/
import Derived.Test.YtokmnkmpdnlnaaaGreatDoorJo13
namespace Go.Proofs.YtokmnkmpdnlnaaaGreatDoor
set_option linter.unusedVariables false
set_option linter.unusedSimpArgs false
set_option maxRecDepth 100000
section
variable {F:List Lf}
theorem lines_y {s:Ps} (hs:s.p≤F.length) (h:comes F [110] s=true):linesP F s=linesP F (nextP s):=by
  have:=LC.eq (lines_c (F:=F)) s hs
  simp only[h,if_true] at this
  exact this
theorem lines_n {s:Ps} (hs:s.p≤F.length) (h:comes F [110] s=false):linesP F s=s:=by
  have:=LC.eq (lines_c (F:=F)) s hs
  simp only[h,if_false,Bool.false_eq_true] at this
  exact this
theorem lines_w:∀m (s:Ps),F.length-s.p=m→s.p≤F.length→comes F [110] (linesP F s)=false∧(linesP F s).l=s.l∧(linesP F s).deep=s.deep∧(linesP F s).up=s.up:=by
  intro m
  induction m using Nat.strongRecOn with
  | _ m ih=>
    intro s hm hs
    cases h:comes F [110] s
    ·rw[lines_n hs h];exact⟨h,rfl,rfl,rfl⟩
    ·have h1:=comes_lt h (by decide)
     rw[lines_y hs h]
     exact ih _ (show F.length-(s.p+1)<m by omega) (nextP s) rfl h1
theorem prog_nl {L:Ps→Ps} (hL:GL F L) (b:Bool):∀m (s:Ps),F.length-s.p=m→s.p≤F.length→progP F L (s,b)=progP F L (linesP F s,b):=by
  intro m
  induction m using Nat.strongRecOn with
  | _ m ih=>
    intro s hm hs
    cases h:comes F [110] s
    ·rw[lines_n hs h]
    ·have h1:=comes_lt h (by decide)
     have e:progC F L (s,b)=((nextP s,b),true):=by unfold progC;simp only[h,if_true]
     rw[lines_y hs h,progP_eq hL (s,b) hs,e]
     exact ih _ (show F.length-(s.p+1)<m by omega) (nextP s) rfl h1
theorem prog_stop {L:Ps→Ps} (hL:GL F L) {s:Ps} (b:Bool) (h:s.p=F.length):progP F L (s,b)=(s,b):=by
  have h0:sg F s.p=0:=sg_end (by omega)
  have c1:comes F [110] s=false:=by unfold comes;rw[h0];rfl
  have c2:pipeB F s=false:=Bool.eq_false_iff.2 fun k=>by have:=pipe_lt k;omega
  have e:progC F L (s,b)=((s,b),false):=by
    unfold progC
    simp only[c1,c2,Bool.and_false,if_false,Bool.false_eq_true]
    rw[if_neg (by omega)]
  rw[progP_eq hL (s,b) (by show s.p≤_;omega),e]
  rfl
theorem prog_gd {L:Ps→Ps} (hL:GL F L) {s:Ps} (b:Bool) (hs:s.p≤F.length):bad s.l≤bad (progP F L (s,b)).1.l:=bad_le (gd_prog hL _ (s,b) rfl hs).1
theorem prog_clean {L:Ps→Ps} (hL:GL F L) {s:Ps} (hs:s.p≤F.length) (hb:bad (progP F L (s,false)).1.l=bad s.l) :
    ((linesP F s).p=F.length∧progP F L (s,false)=(linesP F s,false))∨(pipeB F (linesP F s)=true∧progP F L (s,false)=progP F L (nodeP 2 L (linesP F s),true)):=by
  have h1:=(gd_lines hs).N
  obtain⟨h2,h3,_⟩:=lines_w _ s rfl hs
  rw[prog_nl hL false _ s rfl hs] at hb ⊢
  cases hp:pipeB F (linesP F s)
  ·rcases Nat.lt_or_eq_of_le h1 with h|h
   ·exfalso
    have e:progC F L (linesP F s,false)=((leafP 17 (linesP F s),false),true):=by unfold progC;simp only[h2,hp,h,Bool.and_false,if_true,if_false,Bool.false_eq_true]
    rw[progP_eq hL (linesP F s,false) h1,e] at hb
    have h4:=prog_gd hL (s:=leafP 17 (linesP F s)) false (gd_leaf (F:=F) (k:=17) h).1.N
    rw[bad_err,h3] at h4
    have hb':bad (progP F L (leafP 17 (linesP F s),false)).1.l=bad s.l:=hb
    omega
   ·exact .inl ⟨h,prog_stop hL false h⟩
  ·refine .inr ⟨rfl,?_⟩
   have e:progC F L (linesP F s,false)=((nodeP 2 L (linesP F s),true),true):=by unfold progC;simp only[h2,hp,Bool.not_false,Bool.true_and,if_true,if_false,Bool.false_eq_true]
   rw[progP_eq hL (linesP F s,false) h1,e]
   rfl
theorem prog_true {L:Ps→Ps} (hL:GL F L) {t:Ps} (ht:t.p≤F.length) (hc:comes F [110] t=false) (hb:bad (progP F L (t,true)).1.l=bad t.l):t.p=F.length∧progP F L (t,true)=(t,true):=by
  rcases Nat.lt_or_eq_of_le ht with h|h
  ·exfalso
   have e:progC F L (t,true)=((leafP 17 t,false),true):=by unfold progC;simp only[hc,h,Bool.not_true,Bool.false_and,if_true,if_false,Bool.false_eq_true]
   rw[progP_eq hL (t,true) ht,e] at hb
   have h4:=prog_gd hL (s:=leafP 17 t) false (gd_leaf (F:=F) (k:=17) h).1.N
   rw[bad_err] at h4
   have hb':bad (progP F L (leafP 17 t,false)).1.l=bad t.l:=hb
   omega
  ·exact⟨h,prog_stop hL true h⟩
theorem lst_nl {L:Ps→Ps} (hL:GL F L):∀m (s:Ps),F.length-s.p=m→s.p≤F.length→comes F [110] (lstP F L s)=false:=by
  intro m
  induction m using Nat.strongRecOn with
  | _ m ih=>
    intro s hm hs
    have g1:=Gd.node0 (k:=3) (s:=s) (f:=andP F L) (A:=2) (N:=F.length) fun t ht _=>gd_and hL (by omega)
    have e1:lstP F L s=if (sepP F (nodeP 3 (andP F L) s)).2=true then lstP F L (sepP F (nodeP 3 (andP F L) s)).1 else (sepP F (nodeP 3 (andP F L) s)).1:=LC.eq (lst_c hL) s hs
    have hc:=lst_c hL s hs
    rw[e1]
    by_cases h:(sepP F (nodeP 3 (andP F L) s)).2=true
    ·rw[if_pos h]
     have h1:=hc.1 h
     have:=h1.1.N
     exact ih _ (by omega) _ rfl this
    ·rw[if_neg h]
     unfold sepP
     by_cases h1:comes F [59,38] (nodeP 3 (andP F L) s)=true
     ·rw[if_pos h1]
      exact(lines_w _ _ rfl (Gd.next (comes_lt h1 (by decide))).1.N).1
     ·rw[if_neg h1]
      by_cases h2:comes F [110] (nodeP 3 (andP F L) s)=true
      ·rw[if_pos h2]
       exact(lines_w _ _ rfl g1.N).1
      ·rw[if_neg h2]
       simpa using h2
end
section
variable {F G:List Lf} (E:Ext F G)
include E
theorem lines_ex:∀m (s:Ps),F.length-s.p=m→s.p≤F.length→linesP G s=linesP G (linesP F s):=by
  intro m
  induction m using Nat.strongRecOn with
  | _ m ih=>
    intro s hm hs
    have:=E.le
    cases h:comes F [110] s
    ·rw[lines_n hs h]
    ·have h1:=comes_lt h (by decide)
     rw[lines_y hs h,lines_y (F:=G) (by omega) (by rw[ex_comes_lt E h1];exact h)]
     exact ih _ (show F.length-(s.p+1)<m by omega) (nextP s) rfl h1
theorem w_top {L M:Ps→Ps} (hL:GL F L) (hM:GL G M) (hw:∀s:Ps,s.p≤F.length→We F.length s (L s) (M s)):∀m (s:Ps),F.length-s.p=m→s.p≤F.length→bad (lstP F L s).l=bad s.l→(lstP F L s).p=F.length →
    lstP G M s=if pipeB G (linesP G (lstP F L s))=true then lstP G M (linesP G (lstP F L s)) else linesP G (lstP F L s):=by
  intro m
  induction m using Nat.strongRecOn with
  | _ m ih=>
    intro s hm hs hb hp
    have hle:=E.le
    have g1:=Gd.node0 (k:=3) (s:=s) (f:=andP F L) (A:=2) (N:=F.length) fun t ht _=>gd_and hL (by omega)
    have s1:=se_andN E hL hM hw hs
    have e1:lstP F L s=if (sepP F (nodeP 3 (andP F L) s)).2=true then lstP F L (sepP F (nodeP 3 (andP F L) s)).1 else (sepP F (nodeP 3 (andP F L) s)).1:=LC.eq (lst_c hL) s hs
    have e2:lstP G M s=if (sepP G (nodeP 3 (andP G M) s)).2=true then lstP G M (sepP G (nodeP 3 (andP G M) s)).1 else (sepP G (nodeP 3 (andP G M) s)).1:=LC.eq (lst_c hM) s (by omega)
    have hc:=lst_c hL s hs
    by_cases h1:comes F [59,38] (nodeP 3 (andP F L) s)=true
    ·have gn:=(Gd.next (comes_lt h1 (by decide))).1
     have gl:=gd_lines gn.N
     have e3:sepP F (nodeP 3 (andP F L) s)=(linesP F (nextP (nodeP 3 (andP F L) s)),pipeB F (linesP F (nextP (nodeP 3 (andP F L) s)))):=by unfold sepP;rw[if_pos h1]
     have g2:=(g1.trans gn).trans gl
     rw[e3] at e1 hc
     dsimp only at e1 hc
     by_cases hq:pipeB F (linesP F (nextP (nodeP 3 (andP F L) s)))=true
     ·rw[if_pos hq] at e1
      rw[e1] at hb hp ⊢
      have h2:=hc.1 hq
      have h3:=h2.1.N
      have h5:s.p<(linesP F (nextP (nodeP 3 (andP F L) s))).p:=h2.2
      obtain⟨b1,b2⟩:=cs_split h2.1 (gd_lst hL h3) hb
      obtain⟨b3,b4⟩:=cs_split g1 (gn.trans gl) b1
      have e4:sepP G (nodeP 3 (andP G M) s)=(linesP F (nextP (nodeP 3 (andP F L) s)),true):=by
        rw[s1 b3]
        unfold sepP
        rw[ex_comes E (by decide) (by decide) g1.N,if_pos h1,w_lines E gn.N b4 (pipe_lt hq),ex_pipeB E gl.N,hq]
      rw[e2,e4]
      dsimp only
      rw[if_pos rfl]
      exact ih _ (by omega) _ rfl h3 b2 hp
     ·rw[if_neg hq] at e1
      rw[e1] at hb hp ⊢
      obtain⟨b3,b4⟩:=cs_split g1 (gn.trans gl) hb
      have e4:sepP G (nodeP 3 (andP G M) s)=(linesP G (linesP F (nextP (nodeP 3 (andP F L) s))),pipeB G (linesP G (linesP F (nextP (nodeP 3 (andP F L) s))))):=by
        rw[s1 b3,←lines_ex E _ _ rfl gn.N]
        unfold sepP
        rw[ex_comes E (by decide) (by decide) g1.N,if_pos h1]
      rw[e2,e4]
    ·by_cases h2:comes F [110] (nodeP 3 (andP F L) s)=true
     ·have gl:=gd_lines g1.N
      have e3:sepP F (nodeP 3 (andP F L) s)=(linesP F (nodeP 3 (andP F L) s),pipeB F (linesP F (nodeP 3 (andP F L) s))):=by unfold sepP;rw[if_neg h1,if_pos h2]
      have g2:=g1.trans gl
      rw[e3] at e1 hc
      dsimp only at e1 hc
      by_cases hq:pipeB F (linesP F (nodeP 3 (andP F L) s))=true
      ·rw[if_pos hq] at e1
       rw[e1] at hb hp ⊢
       have h2':=hc.1 hq
       have h3:=h2'.1.N
       have h5:s.p<(linesP F (nodeP 3 (andP F L) s)).p:=h2'.2
       obtain⟨b1,b2⟩:=cs_split h2'.1 (gd_lst hL h3) hb
       obtain⟨b3,b4⟩:=cs_split g1 gl b1
       have e4:sepP G (nodeP 3 (andP G M) s)=(linesP F (nodeP 3 (andP F L) s),true):=by
         rw[s1 b3]
         unfold sepP
         rw[ex_comes E (cs:=[59,38]) (by decide) (by decide) g1.N,if_neg h1,ex_comes_lt E (comes_lt h2 (by decide)),if_pos h2,w_lines E g1.N b4 (pipe_lt hq),ex_pipeB E gl.N,hq]
       rw[e2,e4]
       dsimp only
       rw[if_pos rfl]
       exact ih _ (by omega) _ rfl h3 b2 hp
      ·rw[if_neg hq] at e1
       rw[e1] at hb hp ⊢
       obtain⟨b3,b4⟩:=cs_split g1 gl hb
       have e4:sepP G (nodeP 3 (andP G M) s)=(linesP G (linesP F (nodeP 3 (andP F L) s)),pipeB G (linesP G (linesP F (nodeP 3 (andP F L) s)))):=by
         rw[s1 b3,←lines_ex E _ _ rfl g1.N]
         unfold sepP
         rw[ex_comes E (cs:=[59,38]) (by decide) (by decide) g1.N,if_neg h1,ex_comes_lt E (comes_lt h2 (by decide)),if_pos h2]
       rw[e2,e4]
     ·have e3:sepP F (nodeP 3 (andP F L) s)=(nodeP 3 (andP F L) s,false):=by unfold sepP;rw[if_neg h1,if_neg h2]
      rw[e3] at e1
      replace e1:lstP F L s=nodeP 3 (andP F L) s:=e1
      rw[e1] at hb hp ⊢
      have e4:sepP G (nodeP 3 (andP G M) s)=(linesP G (nodeP 3 (andP F L) s),pipeB G (linesP G (nodeP 3 (andP F L) s))):=by
        rw[s1 hb]
        unfold sepP
        rw[ex_comes E (cs:=[59,38]) (by decide) (by decide) g1.N,if_neg h1,if_pos (by unfold comes;rw[hp,E.sg];rfl)]
      rw[e2,e4]
end
def parN (F:List Lf) (n:Nat):Ps:=nodeP 1 (fun s=>(progP F (lstF F n) (s,false)).1) (ps0 0)
theorem parN_T (F:List Lf):parN F (F.length+1)=parseT F:=rfl
def nOf (k:Nat) (l:List Nd):Nat:=(kds l).countP fun x=>x==k
theorem parN_k (F:List Lf) (n:Nat):kds (parN F n).l=kds (progP F (lstF F n) (inS 1 (ps0 0),false)).1.l:=kds_to _ _ _
theorem join_law (m:Nat) (A B:List Lf) (x:Lf) (hx:x.kd=2) (h1:bad (parN A (m+1)).l=0) (h2:bad (parN B (m+1)).l=0) :
    bad (parN (A++x::B) (m+1)).l=0∧nOf 4 (parN (A++x::B) (m+1)).l=nOf 4 (parN A (m+1)).l+nOf 4 (parN B (m+1)).l:=by
  have hX:(A++[x]).length=A.length+1:=by simp
  have hG:A++x::B=(A++[x])++B:=by simp
  have hg:(A++x::B)[A.length]? = some x:=by rw[List.getElem?_append_right (Nat.le_refl _),Nat.sub_self];rfl
  have E:Ext A (A++x::B):=⟨fun i hi=>List.getElem?_append_left hi,by unfold sg;rw[hg];simp only[sgnL,hx,if_true],by unfold isW;rw[hg];simp only[hx];rfl,by simp⟩
  have hle:=E.le
  obtain⟨G,hGe⟩:∃G,G=A++x::B:=⟨_,rfl⟩
  rw[←hGe] at E hle ⊢
  have hGl:G.length=B.length+(A++[x]).length:=by rw[hGe,hG,List.length_append,Nat.add_comm]
  have gA:=gd_lstF A (m+1)
  have gB:=gd_lstF B (m+1)
  have gG:=gd_lstF G (m+1)
  obtain⟨s0,hs0⟩:∃s0,s0=inS 1 (ps0 0):=⟨_,rfl⟩
  have p0:s0.p=0:=by rw[hs0];rfl
  have d0:s0.deep=0:=by rw[hs0];rfl
  have k0:kds s0.l=[1]:=by rw[hs0];rfl
  have b0:bad s0.l=0:=by rw[hs0];rfl
  unfold nOf
  unfold bad at h1 h2 ⊢
  rw[parN_k,←hs0] at h1 h2 ⊢
  rw[parN_k,parN_k,←hs0]
  have cA:=prog_clean gA (s:=s0) (by omega) (by unfold bad at b0 ⊢;rw[h1,b0])
  have cB:=prog_clean gB (s:=s0) (by omega) (by unfold bad at b0 ⊢;rw[h2,b0])
  have lA:=(gd_lines (F:=A) (s:=s0) (by omega)).N
  have lB:=(gd_lines (F:=B) (s:=s0) (by omega)).N
  obtain⟨wA1,wA2,wA3,_⟩:=lines_w (F:=A) _ s0 rfl (by omega)
  obtain⟨wB1,wB2,wB3,_⟩:=lines_w (F:=B) _ s0 rfl (by omega)
  have eL:=lines_ex E _ s0 rfl (by omega)
  have hN:∀T:Ps,T.p=A.length→T.deep=0→linesP G T=linesP G (nextP T)∧SR (A++[x]).length (kds T.l) [1] (nextP T) s0:=fun T hT hd=>
    ⟨lines_y (by omega) (by unfold comes;rw[hT,E.sg];rfl),by show T.p+1=_;rw[hT,p0,hX];omega,by rw[d0];exact hd,[],by simp[nextP],by simp[k0]⟩
  rcases cA with ⟨a1,a2⟩|⟨a1,a2⟩
  ·obtain⟨n1,n2⟩:=hN _ a1 (by rw[wA3,d0])
   rw[a2] at h1 ⊢
   have e1:progP G (lstF G (m+1)) (s0,false)=progP G (lstF G (m+1)) (nextP (linesP A s0),false):=by
     rw[prog_nl gG false _ s0 rfl (by omega),eL,n1]
     exact(prog_nl gG false _ (nextP (linesP A s0)) rfl (by show (linesP A s0).p+1≤_;omega)).symm
   rw[e1]
   subst hGe
   rw[hG]
   obtain⟨z,z1,z2⟩:=(sr_prog (m+1) false n2).l
   rw[wA2,k0] at z1
   rw[z1,z2]
   rw[z2] at h2
   refine⟨h2,?_⟩
   dsimp only
   rw[wA2,k0]
   simp
  ·have hT0:bad (nodeP 2 (lstF A (m+1)) (linesP A s0)).l=bad s0.l∧(nodeP 2 (lstF A (m+1)) (linesP A s0)).p≤A.length∧(nodeP 2 (lstF A (m+1)) (linesP A s0)).deep=0:=by
     have g2:=Gd.node0 (k:=2) (s:=linesP A s0) (f:=lstF A (m+1)) (A:=3) (N:=A.length) fun t ht _=>gA t (by omega)
     have g3:=prog_gd gA true g2.N
     rw[a2] at h1
     have:=bad_le g2
     rw[wA2] at this
     unfold bad at this g3 b0 ⊢
     exact⟨by omega,g2.N,by rw[g2.dp,wA3,d0]⟩
   obtain⟨t1,t2,t3⟩:=hT0
   have t4:=prog_true gA t2 (lst_nl (gd_lstF A m) _ (inS 2 (linesP A s0)) rfl lA) (by rw[←a2];rw[t1,b0];exact h1)
   rw[a2,t4.2] at h1 ⊢
   obtain⟨T,hT⟩:∃T,T=lstP A (lstF A m) (inS 2 (linesP A s0)):=⟨_,rfl⟩
   have q1:T.p=A.length:=by rw[hT];exact t4.1
   have q2:kds (nodeP 2 (lstF A (m+1)) (linesP A s0)).l=kds T.l:=by rw[hT];exact kds_to _ _ _
   have q3:T.deep=0:=by rw[hT];exact t3
   have q4:bad T.l=bad (inS 2 (linesP A s0)).l:=by
     rw[bad_in (by decide),wA2,←t1]
     unfold bad
     rw[q2]
   dsimp only at h1 ⊢
   rw[q2] at h1 ⊢
   have wt:=w_top E (gd_lstF A m) (gd_lstF G m) (w_lstF E m) _ (inS 2 (linesP A s0)) rfl lA (by rw[←hT];exact q4) (by rw[←hT];exact q1)
   rw[←hT] at wt
   obtain⟨n1,n2⟩:=hN T q1 q3
   have e0:linesP G s0=linesP A s0:=w_lines E (s:=s0) (by omega) (by rw[wA2]) (pipe_lt a1)
   have e1:progP G (lstF G (m+1)) (s0,false)=progP G (lstF G (m+1)) (nodeP 2 (lstF G (m+1)) (linesP A s0),true):=by
     have c1:comes G [110] (linesP A s0)=false:=by rw[ex_comes_lt E (pipe_lt a1)];exact wA1
     have c2:pipeB G (linesP A s0)=true:=by rw[ex_pipeB E lA];exact a1
     have e:progC G (lstF G (m+1)) (linesP A s0,false)=((nodeP 2 (lstF G (m+1)) (linesP A s0),true),true):=by unfold progC;simp only[c1,c2,Bool.not_false,Bool.true_and,if_true,if_false,Bool.false_eq_true]
     rw[prog_nl gG false _ s0 rfl (by omega),e0,progP_eq gG (linesP A s0,false) (by show (linesP A s0).p≤_;omega),e]
     rfl
   rw[e1]
   have hU:SR (A++[x]).length (kds T.l) [1] (linesP G T) (linesP B s0):=by
     rw[n1]
     have:=sr_lines (B:=B) n2
     rw[←hG,←hGe] at this
     exact this
   have hUl:(linesP G T).l=T.l:=(lines_w _ T rfl (by omega)).2.1
   have hfin:∀H:Ps,lstP G (lstF G m) (inS 2 (linesP A s0))=H→H.p=G.length→progP G (lstF G (m+1)) (nodeP 2 (lstF G (m+1)) (linesP A s0),true)=(nodeP 2 (lstF G (m+1)) (linesP A s0),true)∧kds (nodeP 2 (lstF G (m+1)) (linesP A s0)).l=kds H.l:=fun H e hp=>
     ⟨prog_stop gG true (by show (lstP G (lstF G m) (inS 2 (linesP A s0))).p=_;rw[e];exact hp),by rw[←e];exact kds_to _ _ _⟩
   have pq:pipeB G (linesP G T)=pipeB B (linesP B s0):=by
     have:=sr_pipeB (B:=B) hU
     rw[←hG,←hGe] at this
     exact this
   rcases cB with ⟨c1,c2⟩|⟨c1,c2⟩
   ·have hp0:pipeB B (linesP B s0)=false:=Bool.eq_false_iff.2 fun k=>by have:=pipe_lt k;omega
    rw[pq,hp0,if_neg (by decide)] at wt
    obtain⟨f1,f2⟩:=hfin _ wt (by rw[hU.p,c1,hGl])
    rw[f1]
    dsimp only
    rw[f2,hUl]
    refine⟨h1,?_⟩
    rw[c2]
    dsimp only
    rw[wB2,k0]
    simp
   ·rw[pq,c1,if_pos rfl] at wt
    have hV:SR (A++[x]).length (kds T.l) [1,2] (linesP G T) (inS 2 (linesP B s0)):=⟨hU.p,hU.d,[],by rw[hUl];simp,by show kds ((linesP B s0).l++[_])=_;rw[kds_app,wB2,k0];rfl⟩
    have hW:=sr_lst (X:=A++[x]) (B:=B) (sr_lstF (B:=B) m) hV
    rw[←hG,←hGe] at hW
    have g2:=Gd.node0 (k:=2) (s:=linesP B s0) (f:=lstF B (m+1)) (A:=3) (N:=B.length) fun t ht _=>gB t (by omega)
    have g3:=prog_gd gB true g2.N
    have g4:=bad_le g2
    have h2':bad (progP B (lstF B (m+1)) (s0,false)).1.l=0:=h2
    rw[wB2] at g4
    rw[c2] at h2'
    have u1:=prog_true gB g2.N (lst_nl (gd_lstF B m) _ (inS 2 (linesP B s0)) rfl lB) (by omega)
    have u2:kds (nodeP 2 (lstF B (m+1)) (linesP B s0)).l=kds (lstP B (lstF B m) (inS 2 (linesP B s0))).l:=kds_to _ _ _
    have u3:(lstP B (lstF B m) (inS 2 (linesP B s0))).p=B.length:=u1.1
    obtain⟨f1,f2⟩:=hfin _ wt (by rw[hW.p,u3,hGl])
    obtain⟨z,z1,z2⟩:=hW.l
    rw[f1,c2,u1.2]
    rw[u1.2] at h2'
    unfold bad at h2'
    dsimp only at h2' ⊢
    rw[u2,z2,List.countP_append] at h2'
    rw[f2,u2,z1,z2,List.countP_append,List.countP_append,List.countP_append]
    refine⟨by omega,?_⟩
    simp
end Go.Proofs.YtokmnkmpdnlnaaaGreatDoor
