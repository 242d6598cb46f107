/- Motion: top commands are not empty. No program is in sight. -/
import Derived.Test.YtgdifhhioahakaaGreatDoorCo29
namespace Go.Proofs.YtgdifhhioahakaaGreatDoor
set_option linter.unusedVariables false
set_option linter.unusedSimpArgs false
set_option maxRecDepth 100000
theorem Fo.ups {b:Nat} {u:Int} {a c:Nat} {l:List Nd} (h:Fo b u a c l):∀x∈l,x.up=u∨((b:Int)≤x.up∧x.up<((b+l.length:Nat):Int)):=by
  induction h with
  | nil _=>intro x hx;cases hx
  | @cons b u a c k x y ks r e1 e2 e3 e4 e5 ih1 ih2=>
    intro q hq
    have hl:(⟨k,x,y,u⟩::(ks++r):List Nd).length=1+ks.length+r.length:=by simp;omega
    rw[hl]
    rcases List.mem_cons.1 hq with rfl|hq
    ·exact .inl rfl
    ·rcases List.mem_append.1 hq with hq|hq
     ·rcases ih1 q hq with h|h
      ·exact .inr ⟨by omega,by omega⟩
      ·exact .inr ⟨by omega,by omega⟩
     ·rcases ih2 q hq with h|h
      ·exact .inl h
      ·exact .inr ⟨by omega,by omega⟩
section
variable {F:List Lf} {L:Ps→Ps}
theorem lines_l:∀(m:Nat) (s:Ps),F.length-s.p=m→s.p≤F.length→(linesP F s).l=s.l:=by
  intro m
  induction m using Nat.strongRecOn with
  | _ m ih=>
    intro s hm hs
    unfold linesP
    rw[LC.eq lines_c s hs]
    by_cases hc:comes F [110] s=true
    ·have h1:=comes_lt hc (by decide)
     simp only[hc,if_true]
     have h2:=ih (F.length-(nextP s).p) (by have:(nextP s).p=s.p+1:=rfl;omega) (nextP s) rfl (by have:(nextP s).p=s.p+1:=rfl;omega)
     unfold linesP at h2
     exact h2
    ·simp[hc]
theorem com_lt (hL:GL F L) {s:Ps} (h:cmdB F s=true):s.p<(comP F L s).p:=by
  unfold comP
  by_cases hc:compB F s=true
  ·rw[if_pos hc];exact(gd_comp hL (comp_lt hc)).2
  ·rw[if_neg hc]
   by_cases hf:funB F s=true
   ·rw[if_pos hf]
    have hx:sg F s.p=120:=by unfold funB at hf;simp at hf;exact hf.1
    exact(gd_def hL (s:={s with deep:=s.deep+1,l:=s.l++[⟨16,s.p,0,s.up⟩],up:=(s.l.length:Int)}) hx).2.1
   ·rw[if_neg hf,if_pos h]
    obtain⟨u,hu⟩:∃u,u=({s with l:=s.l++[⟨5,s.p,0,s.up⟩],up:=(s.l.length:Int)}:Ps):=⟨_,rfl⟩
    show s.p<(simpP F {s with l:=s.l++[⟨5,s.p,0,s.up⟩],up:=(s.l.length:Int)}).p
    rw[←hu]
    have hup:u.p=s.p:=by rw[hu]
    have hlt:s.p<F.length:=by
      refine pipe_lt ?_
      unfold pipeB
      rw[h,Bool.or_true]
    have hway:redirB F u=true∨isW F u.p=true:=by
      unfold cmdB at h
      simp only[Bool.or_eq_true,beq_iff_eq] at h
      rcases h with h|h|h
      ·exact .inr (by rw[hup];exact fun_w h)
      ·exact .inl (by rw[hu];exact h)
      ·exact absurd h hc
    have hus:u.p≤F.length:=by omega
    have h1:=Gd.loop (simp0_c (F:=F)) _ u rfl hus
    have he:=LC.eq (simp0_c (F:=F)) u hus
    unfold simpP
    simp only
    obtain⟨s1,hs1⟩:∃s1,s1=loopP F.length (fun s=>if redirB F s=true then (redirP F s,true) else if (isW F s.p&&asgT (tx F s.p))=true then (leafP 6 s,true) else (s,false)) u:=⟨_,rfl⟩
    rw[←hs1] at h1 he ⊢
    have h1p:=h1.p
    have key:u.p<s1.p∨(s1.p=u.p∧isW F u.p=true):=by
      by_cases hr:redirB F u=true
      ·rw[if_pos (by simp only[hr,if_true])] at he
       simp only[hr,if_true] at he
       have h2:=gd_redir hr
       have h3:=(Gd.loop (simp0_c (F:=F)) _ _ rfl h2.1.N).p
       rw[←he] at h3
       exact .inl (by omega)
      ·have hw:=hway.resolve_left hr
       by_cases ha:asgT (tx F u.p)=true
       ·simp only[hr,hw,ha,Bool.and_self,Bool.false_eq_true,if_true,if_false] at he
        have h2:=gd_leaf (F:=F) (k:=6) (isW_lt hw)
        have h3:=(Gd.loop (simp0_c (F:=F)) _ _ rfl h2.1.N).p
        rw[←he] at h3
        exact .inl (by have:=h2.2.1;omega)
       ·simp only[hr,hw,ha,Bool.true_and,Bool.false_eq_true,if_false] at he
        exact .inr ⟨by rw[he],hw⟩
    by_cases hw1:isW F s1.p=true
    ·rw[if_pos hw1]
     have h2:=gd_leaf (F:=F) (k:=7) (isW_lt hw1)
     have h3:=(gd_simp1 (F:=F) h2.2.2.N).p
     have:=h2.2.1
     omega
    ·rw[if_neg hw1]
     rcases key with k|⟨k1,k2⟩
     ·omega
     ·rw[k1] at hw1;exact absurd k2 hw1
theorem pip_lt (hL:GL F L) {s:Ps} (h:pipeB F s=true):s.p<(pipP F L s).p:=by
  unfold pipP
  rw[if_pos h]
  show s.p<(pipInP F L {s with l:=s.l++[⟨4,s.p,0,s.up⟩],up:=(s.l.length:Int)}).p
  obtain⟨t,ht⟩:∃t,t=({s with l:=s.l++[⟨4,s.p,0,s.up⟩],up:=(s.l.length:Int)}:Ps):=⟨_,rfl⟩
  rw[←ht]
  have htp:t.p=s.p:=by rw[ht]
  have hpb:pipeB F t=pipeB F s:=by rw[ht];rfl
  have hs:=pipe_lt h
  unfold pipInP
  have h1:=gd_take (F:=F) (cs:=[33]) (by decide) (s:=t) (by omega)
  have h2:=gd_com hL h1.N
  have h3:=Gd.loop (pipIn_c hL) _ _ rfl h2.N
  have h4:=h3.p
  have h5:=h2.p
  by_cases hc:comes F [33] t=true
  ·have e:takeP F [33] t=nextP t:=by unfold takeP;rw[if_pos hc]
   rw[e] at h4 h5 ⊢
   have:(nextP t).p=t.p+1:=rfl
   omega
  ·have e:takeP F [33] t=t:=by unfold takeP;rw[if_neg hc]
   rw[e] at h4 h5 ⊢
   have hcb:cmdB F t=true:=by
     rw[←hpb] at h
     unfold pipeB at h
     unfold comes at hc
     simp only[Bool.or_eq_true,beq_iff_eq] at h
     rcases h with h|h
     ·exact absurd (by rw[h];decide) hc
     ·exact h
   have:=com_lt hL hcb
   omega
theorem and_lt (hL:GL F L) {s:Ps} (h:pipeB F s=true):s.p<(andP F L s).p:=by
  have hs:=pipe_lt h
  have h1:=pip_lt hL h
  have h2:=gd_pip hL (s:=s) (by omega)
  have h3:=Gd.loop (and_c hL) _ _ rfl h2.N
  have:=h3.p
  unfold andP
  omega
theorem sep_l {s:Ps} (hs:s.p≤F.length):(sepP F s).1.l=s.l:=by
  unfold sepP
  by_cases h1:comes F [59,38] s=true
  ·rw[if_pos h1]
   have h2:=comes_lt h1 (by decide)
   exact lines_l _ _ rfl (show s.p+1≤_ by omega)
  ·rw[if_neg h1]
   by_cases h3:comes F [110] s=true
   ·rw[if_pos h3];exact lines_l _ _ rfl hs
   ·rw[if_neg h3]
theorem sep_pipe {s:Ps} (h:(sepP F s).2=true):pipeB F (sepP F s).1=true:=by
  unfold sepP at h ⊢
  by_cases h1:comes F [59,38] s=true
  ·rw[if_pos h1] at h ⊢;exact h
  ·rw[if_neg h1] at h ⊢
   by_cases h3:comes F [110] s=true
   ·rw[if_pos h3] at h ⊢;exact h
   ·rw[if_neg h3] at h;cases h
theorem lst_roots (hL:GL F L):∀(n:Nat) (s:Ps),F.length-s.p=n→pipeB F s=true→s.up<(s.l.length:Int)→∃m,(lstP F L s).l=s.l++m∧∀x∈m,x.kd=3→x.up=s.up→x.fr<x.tt:=by
  intro n
  induction n using Nat.strongRecOn with
  | _ n ih=>
    intro s hn hp hup
    have hs:=pipe_lt hp
    have hsl:s.p≤F.length:=by omega
    have h1:=Gd.node0 (k:=3) (s:=s) (f:=andP F L) (A:=2) (N:=F.length) fun t ht _=>gd_and hL (by omega)
    have hlt:s.p<(nodeP 3 (andP F L) s).p:=and_lt hL (s:={s with l:=s.l++[⟨3,s.p,0,s.up⟩],up:=(s.l.length:Int)}) hp
    have hr:∃m,(nodeP 3 (andP F L) s).l=s.l++m∧∀x∈m,x.kd=3→x.up=s.up→x.fr<x.tt:=by
      have h0:=gd_and hL (s:={s with l:=s.l++[⟨3,s.p,0,s.up⟩],up:=(s.l.length:Int)}) hsl
      obtain⟨m,e1,e2⟩:=h0.f
      refine⟨⟨3,s.p,(nodeP 3 (andP F L) s).p,s.up⟩::m,?_,fun x hx hk hu=>?_⟩
      ·show ndTo (andP F L {s with l:=s.l++[⟨3,s.p,0,s.up⟩],up:=(s.l.length:Int)}).l s.l.length (andP F L {s with l:=s.l++[⟨3,s.p,0,s.up⟩],up:=(s.l.length:Int)}).p=_
       rw[e1,List.append_assoc,List.singleton_append,ndTo_at]
       rfl
      ·rcases List.mem_cons.1 hx with rfl|hx
       ·exact hlt
       ·have:=e2.ups x hx
        simp only[List.length_append,List.length_singleton] at this
        omega
    unfold lstP
    rw[LC.eq (lst_c hL) s hsl]
    obtain⟨m,e1,e2⟩:=hr
    have e3:=sep_l (F:=F) h1.N
    by_cases hc:(sepP F (nodeP 3 (andP F L) s)).2=true
    ·rw[if_pos hc]
     have g1:=(lst_c hL s hsl).1 hc
     have e4:=sep_pipe hc
     have g2:=pipe_lt e4
     have e5:(sepP F (nodeP 3 (andP F L) s)).1.up=s.up:=g1.1.up
     obtain⟨m',k1,k2⟩:=ih _ (by have:=g1.2;omega) _ rfl e4 (by rw[e5,e3,e1,List.length_append];omega)
     unfold lstP at k1
     refine⟨m++m',by rw[k1,e3,e1,List.append_assoc],fun x hx hk hu=>?_⟩
     rcases List.mem_append.1 hx with hx|hx
     ·exact e2 x hx hk hu
     ·exact k2 x hx hk (by rw[e5];exact hu)
    ·rw[if_neg hc]
     exact⟨m,by rw[e3,e1],e2⟩
theorem prog_roots {L':Ps→Ps} (hL':GL F L') (hL:GL F (lstP F L')):∀(n:Nat) (x:Ps×Bool),2*F.length+1-progM x=n→x.1.p≤F.length→x.1.up<(x.1.l.length:Int)→(∀q∈x.1.l,q.up<(x.1.l.length:Int)) →
    ∀(v:Nat) (y:Nd),x.1.l.length≤v→(progP F (lstP F L') x).1.l[v]? = some y→y.kd=2→y.up=x.1.up→∀q∈(progP F (lstP F L') x).1.l,q.up=(v:Int)→q.kd=3→q.fr<q.tt:=by
  intro n
  induction n using Nat.strongRecOn with
  | _ n ih=>
    intro x hn hx hu hall v y hv hy hk2 hyu q hq hqv hq3
    have hcont:(progC F (lstP F L') x).2=true→progP F (lstP F L') x=progP F (lstP F L') (progC F (lstP F L') x).1:=fun hc=>by rw[progP_eq hL x hx,if_pos hc]
    have hstep:(hc:(progC F (lstP F L') x).2=true)→2*F.length+1-progM (progC F (lstP F L') x).1<n∧(progC F (lstP F L') x).1.1.p≤F.length:=fun hc=>by
      have h1:=progC_ok hL x hx hc
      have h2:=progM_le h1.2.1
      exact⟨by omega,h1.2.1⟩
    by_cases hc:(progC F (lstP F L') x).2=true
    ·have hgo:=hcont hc
     obtain⟨hs1,hs2⟩:=hstep hc
     rw[hgo] at hy hq
     have hih:=ih _ hs1 _ rfl hs2
     have hgp:=(gd_prog hL _ _ rfl hs2).1
     obtain⟨m2,g1,g2⟩:=hgp.f
     obtain⟨s,b⟩:=x
     replace hx:s.p≤F.length:=hx
     replace hu:s.up<(s.l.length:Int):=hu
     replace hall:∀q∈s.l,q.up<(s.l.length:Int):=hall
     replace hv:s.l.length≤v:=hv
     replace hyu:y.up=s.up:=hyu
     unfold progC at hc hih hy hq g1 g2
     by_cases h1:comes F [110] s=true
     ·simp only[h1,if_true] at hih hy hq
      exact hih hu hall v y hv hy hk2 hyu q hq hqv hq3
     ·simp only[h1,if_false,Bool.false_eq_true] at hc hih hy hq g1 g2
      by_cases h2:(!b&&pipeB F s)=true
      ·obtain⟨rfl,h3⟩:b=false∧pipeB F s=true:=by simpa using h2
       simp only[h2,if_true] at hih hy hq g1 g2
       obtain⟨s',hs'⟩:∃s',s'=({s with l:=s.l++[⟨2,s.p,0,s.up⟩],up:=(s.l.length:Int)}:Ps):=⟨_,rfl⟩
       obtain⟨m,e1,e2⟩:=lst_roots hL' _ s' rfl (by rw[hs'];exact h3) (by rw[hs'];show (s.l.length:Int)<((s.l++[_]).length:Int);rw[List.length_append,List.length_singleton];omega)
       have e3:(nodeP 2 (lstP F L') s).l=s.l++⟨2,s.p,(nodeP 2 (lstP F L') s).p,s.up⟩::m:=by
         show ndTo (lstP F L' {s with l:=s.l++[⟨2,s.p,0,s.up⟩],up:=(s.l.length:Int)}).l s.l.length (lstP F L' {s with l:=s.l++[⟨2,s.p,0,s.up⟩],up:=(s.l.length:Int)}).p=_
         rw[←hs',e1,hs']
         show ndTo ((s.l++[_])++m) _ _=_
         rw[List.append_assoc,List.singleton_append,ndTo_at]
         rfl
       have hups:∀z∈m,z.up=(s.l.length:Int)∨((s.l.length:Int)<z.up∧z.up<((s.l.length+1+m.length:Nat):Int)):=fun z hz=>by
         obtain⟨m',k1,k2⟩:=(hL s' (by rw[hs'];exact hx)).f
         rw[e1] at k1
         have k3:=List.append_cancel_left k1
         subst k3
         have:=k2.ups z hz
         rw[hs'] at this
         simp only[List.length_append,List.length_singleton] at this
         omega
       have hlen:(nodeP 2 (lstP F L') s).l.length=s.l.length+1+m.length:=by rw[e3];simp;omega
       have hup1:(nodeP 2 (lstP F L') s).up=s.up:=rfl
       have hall1:∀z∈(nodeP 2 (lstP F L') s).l,z.up<((nodeP 2 (lstP F L') s).l.length:Int):=fun z hz=>by
         rw[hlen]
         rw[e3] at hz
         rcases List.mem_append.1 hz with hz|hz
         ·have:=hall z hz;omega
         ·rcases List.mem_cons.1 hz with rfl|hz
          ·show s.up<_;omega
          ·have:=hups z hz;omega
       rcases Nat.lt_or_ge v (nodeP 2 (lstP F L') s).l.length with hvl|hvl
       ·rw[g1,List.getElem?_append_left hvl,e3,List.getElem?_append_right hv] at hy
        have hv0:v=s.l.length:=by
          refine Nat.le_antisymm (Nat.le_of_not_lt fun hgt=>?_) hv
          obtain⟨j,hj⟩:∃j,v-s.l.length=j+1:=⟨v-s.l.length-1,by omega⟩
          rw[hj,List.getElem?_cons_succ] at hy
          have:=hups y (List.mem_of_getElem? hy)
          omega
        rw[g1] at hq
        rcases List.mem_append.1 hq with hq|hq
        ·rw[e3] at hq
         rcases List.mem_append.1 hq with hq|hq
         ·have:=hall q hq;omega
         ·rcases List.mem_cons.1 hq with rfl|hq
          ·cases hq3
          ·exact e2 q hq hq3 (by rw[hs'];show q.up=(s.l.length:Int);omega)
        ·have:=g2.ups q hq
         rw[hlen,hup1] at this
         omega
       ·exact hih (by rw[hlen];show s.up<_;omega) hall1 v y hvl hy hk2 hyu q hq hqv hq3
      ·simp only[h2,if_false,Bool.false_eq_true] at hc hih hy hq g1 g2
       by_cases h3:s.p<F.length
       ·simp only[h3,if_true] at hih hy hq g1 g2
        have e3:(leafP 17 s).l=s.l++[⟨17,s.p,s.p+1,s.up⟩]:=by
          show ndTo (s.l++[⟨17,s.p,0,s.up⟩]) s.l.length (s.p+1)=_
          rw[show s.l++[(⟨17,s.p,0,s.up⟩:Nd)]=s.l++(⟨17,s.p,0,s.up⟩:Nd)::[] from rfl,ndTo_at]
        have hlen:(leafP 17 s).l.length=s.l.length+1:=by rw[e3];simp
        have hall1:∀z∈(leafP 17 s).l,z.up<((leafP 17 s).l.length:Int):=fun z hz=>by
          rw[hlen]
          rw[e3] at hz
          rcases List.mem_append.1 hz with hz|hz
          ·have:=hall z hz;omega
          ·rw[List.mem_singleton.1 hz];show s.up<_;omega
        rcases Nat.lt_or_ge v (leafP 17 s).l.length with hvl|hvl
        ·rw[g1,List.getElem?_append_left hvl,e3,List.getElem?_append_right hv,show v-s.l.length=0 by omega] at hy
         have hy:(⟨17,s.p,s.p+1,s.up⟩:Nd)=y:=by simpa using hy
         rw[←hy] at hk2
         cases hk2
        ·exact hih (by rw[hlen];show s.up<_;omega) hall1 v y hvl hy hk2 hyu q hq hqv hq3
       ·simp only[h3,if_false] at hc
        cases hc
    ·have he:(progP F (lstP F L') x).1.l=x.1.l:=by
       rw[progP_eq hL x hx,if_neg hc]
       unfold progC at hc ⊢
       by_cases h1:comes F [110] x.1=true
       ·simp[h1] at hc
       ·simp only[h1,if_false,Bool.false_eq_true] at hc ⊢
        by_cases h2:(!x.2&&pipeB F x.1)=true
        ·simp[h2] at hc
        ·simp only[h2,if_false,Bool.false_eq_true] at hc ⊢
         by_cases h3:x.1.p<F.length
         ·simp[h3] at hc
         ·simp only[h3,if_false]
     rw[he] at hy
     have:=(List.getElem?_eq_some_iff.1 hy).1
     omega
end
end Go.Proofs.YtgdifhhioahakaaGreatDoor
