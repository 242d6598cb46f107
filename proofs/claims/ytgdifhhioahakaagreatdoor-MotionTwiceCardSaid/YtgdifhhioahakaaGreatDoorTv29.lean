/- Motion: what a compound node begins with. No program is in sight. -/
import Derived.Test.YtgdifhhioahakaaGreatDoorNu29
import Derived.Test.YtgdifhhioahakaaGreatDoorMt29
import Derived.Test.YtgdifhhioahakaaGreatDoorTh29
namespace Go.Proofs.YtgdifhhioahakaaGreatDoor
set_option linter.unusedVariables false
set_option linter.unusedSimpArgs false
set_option maxRecDepth 100000
def cmpK (k:Nat):Bool:=decide (9≤k)&&decide (k≤14)
def nq (F:List Lf) (a c:Nat) (x:Nd):Prop:=a≤x.fr∧x.fr≤c∧(cmpK x.kd=true→([123,40,105,119,114,99]:List UInt8).contains (sg F x.fr)=true∧cknd (sg F x.fr)=x.kd∧x.fr<c)
structure Gq (F:List Lf) (s t:Ps):Prop where
  p:s.p≤t.p
  f:∃m,t.l=s.l++m∧(∀x∈m,nq F s.p t.p x)∧m.Pairwise fun x y=>cmpK x.kd=true→x.fr<y.fr
section
variable {F:List Lf}
theorem nq.mono {a a' c c':Nat} {x:Nd} (h:nq F a c x) (ha:a'≤a) (hc:c≤c'):nq F a' c' x:=⟨by have:=h.1;omega,by have:=h.2.1;omega,fun hk=>by have:=h.2.2 hk;exact⟨this.1,this.2.1,by omega⟩⟩
theorem Gq.refl (s:Ps):Gq F s s:=⟨Nat.le_refl _,[],by simp,fun x hx=>(by cases hx),List.Pairwise.nil⟩
theorem Gq.trans {s t u:Ps} (h:Gq F s t) (k:Gq F t u):Gq F s u:=by
  obtain⟨m,h1,h2,h3⟩:=h.f
  obtain⟨m',k1,k2,k3⟩:=k.f
  refine⟨Nat.le_trans h.p k.p,m++m',by rw[k1,h1,List.append_assoc],fun x hx=>?_,?_⟩
  ·rcases List.mem_append.1 hx with hx|hx
   ·exact(h2 x hx).mono (Nat.le_refl _) k.p
   ·exact(k2 x hx).mono h.p (Nat.le_refl _)
  ·rw[List.pairwise_append]
   refine⟨h3,k3,fun x hx y hy hk=>?_⟩
   have:=((h2 x hx).2.2 hk).2.2
   have:=(k2 y hy).1
   omega
theorem Gq.calm {s t:Ps} (h:s.p≤t.p) (hl:t.l=s.l):Gq F s t:=⟨h,[],by rw[hl];simp,fun x hx=>(by cases hx),List.Pairwise.nil⟩
theorem Gq.next (s:Ps):Gq F s (nextP s):=Gq.calm (Nat.le_succ _) rfl
theorem Gq.ite {s r r':Ps} {b:Bool} (h:b=true→Gq F s r) (k:b=false→Gq F s r'):Gq F s (if b=true then r else r'):=by
  cases b
  ·exact k rfl
  ·exact h rfl
theorem Gq.node {k:Nat} {s:Ps} {f:Ps→Ps} (h:∀t:Ps,t.p=s.p→t.deep=s.deep→Gq F t (f t)) (hk:cmpK k=false:=by decide):Gq F s (nodeP k f s):=by
  have h1:=h {s with l:=s.l++[⟨k,s.p,0,s.up⟩],up:=(s.l.length:Int)} rfl rfl
  obtain⟨m,e1,e2,e3⟩:=h1.f
  refine⟨h1.p,⟨k,s.p,(nodeP k f s).p,s.up⟩::m,?_,fun x hx=>?_,?_⟩
  ·show ndTo (f {s with l:=s.l++[⟨k,s.p,0,s.up⟩],up:=(s.l.length:Int)}).l s.l.length (f {s with l:=s.l++[⟨k,s.p,0,s.up⟩],up:=(s.l.length:Int)}).p=_
   rw[e1,List.append_assoc,List.singleton_append,ndTo_at]
   rfl
  ·rcases List.mem_cons.1 hx with rfl|hx
   ·exact⟨Nat.le_refl _,h1.p,fun e=>absurd (show cmpK k=true from e) (by rw[hk];decide)⟩
   ·exact e2 x hx
  ·rw[List.pairwise_cons]
   exact⟨fun y hy e=>absurd (show cmpK k=true from e) (by rw[hk];decide),e3⟩
theorem Gq.comp {s:Ps} {f:Ps→Ps} (hc:([123,40,105,119,114,99]:List UInt8).contains (sg F s.p)=true) (h:∀t:Ps,t.p=s.p→Gq F (nextP t) (f t)):Gq F s (nestP (cknd (sg F s.p)) f s):=by
  have h1:=h {s with deep:=s.deep+1,l:=s.l++[⟨cknd (sg F s.p),s.p,0,s.up⟩],up:=(s.l.length:Int)} rfl
  obtain⟨m,e1,e2,e3⟩:=h1.f
  have hp:s.p+1≤(nestP (cknd (sg F s.p)) f s).p:=h1.p
  refine⟨by omega,⟨cknd (sg F s.p),s.p,(nestP (cknd (sg F s.p)) f s).p,s.up⟩::m,?_,fun x hx=>?_,?_⟩
  ·show ndTo (f {s with deep:=s.deep+1,l:=s.l++[⟨cknd (sg F s.p),s.p,0,s.up⟩],up:=(s.l.length:Int)}).l s.l.length (f {s with deep:=s.deep+1,l:=s.l++[⟨cknd (sg F s.p),s.p,0,s.up⟩],up:=(s.l.length:Int)}).p=_
   rw[e1]
   show ndTo ((s.l++[_])++m) _ _=_
   rw[List.append_assoc,List.singleton_append,ndTo_at]
   rfl
  ·rcases List.mem_cons.1 hx with rfl|hx
   ·exact⟨Nat.le_refl _,by show s.p≤_;omega,fun _=>⟨hc,rfl,hp⟩⟩
   ·exact(e2 x hx).mono (Nat.le_succ _) (Nat.le_refl _)
  ·rw[List.pairwise_cons]
   exact⟨fun y hy _=>by have:s.p+1≤y.fr:=(e2 y hy).1;show s.p<_;omega,e3⟩
theorem Gq.nest {k:Nat} {s:Ps} {f:Ps→Ps} (h:∀t:Ps,t.p=s.p→Gq F t (f t)) (hk:cmpK k=false:=by decide):Gq F s (nestP k f s):=by
  have h1:=Gq.node (k:=k) (s:={s with deep:=s.deep+1}) (f:=f) (fun t ht _=>h t ht) hk
  exact⟨h1.p,h1.f⟩
theorem Gq.loop {c:Ps→Ps×Bool} {B:Nat} (hL:∀s,s.p≤F.length→LC F.length B s (c s)) (h:∀s,s.p≤F.length→Gq F s (c s).1):∀m s,F.length-s.p=m→s.p≤F.length→Gq F s (loopP F.length c s):=by
  intro m
  induction m using Nat.strongRecOn with
  | _ m ih=>
    intro s hm hs
    rw[LC.eq hL s hs]
    by_cases hc:(c s).2=true
    ·rw[if_pos hc]
     have h1:=(hL s hs).1 hc
     have h2:=h1.1.N
     exact(h s hs).trans (ih _ (by omega) _ rfl h2)
    ·rw[if_neg hc]
     exact h s hs
theorem gq_take {cs:List UInt8} (s:Ps):Gq F s (takeP F cs s):=Gq.ite (fun _=>Gq.next s) (fun _=>Gq.refl s)
theorem gq_miss (s:Ps):Gq F s (missP s):=Gq.node (k:=18) fun t _ _=>Gq.refl t
theorem gq_leaf {k:Nat} (s:Ps) (hk:cmpK k=false:=by decide):Gq F s (leafP k s):=Gq.node (fun t _ _=>Gq.next t) hk
theorem gq_want {c:UInt8} (s:Ps):Gq F s (wantP F c s):=Gq.ite (fun _=>Gq.next s) (fun _=>gq_miss s)
theorem gq_word (s:Ps):Gq F s (wordP F s):=Gq.ite (fun _=>gq_leaf s) (fun _=>gq_miss s)
theorem gq_lines {s:Ps} (hs:s.p≤F.length):Gq F s (linesP F s):=Gq.calm (gd_lines hs).p (lines_l _ s rfl hs)
theorem gq_redir (s:Ps):Gq F s (redirP F s):=Gq.node (k:=8) fun t _ _=>((gq_take t).trans (gq_take _)).trans (gq_word _)
theorem gq_redirs {s:Ps} (hs:s.p≤F.length):Gq F s (redirsP F s):=Gq.loop redirs_c (fun s _=>by
  split
  ·exact gq_redir s
  ·exact Gq.refl s) _ s rfl hs
theorem gq_simp1 {s:Ps} (hs:s.p≤F.length):Gq F s (simp1P F s):=Gq.loop simp1_c (fun s _=>by
  split
  ·exact gq_redir s
  ·split
   ·exact gq_leaf s
   ·exact Gq.refl s) _ s rfl hs
theorem gq_simp {s:Ps} (hs:s.p≤F.length):Gq F s (simpP F s):=by
  have h0:=Gd.loop (simp0_c (F:=F)) _ s rfl hs
  have h1:Gq F s (loopP F.length (fun s=>if redirB F s=true then (redirP F s,true) else if (isW F s.p&&asgT (tx F s.p))=true then (leafP 6 s,true) else (s,false)) s):=Gq.loop simp0_c (fun s _=>by
    split
    ·exact gq_redir s
    ·split
     ·exact gq_leaf s
     ·exact Gq.refl s) _ s rfl hs
  refine Gq.ite (fun hc=>?_) (fun _=>h1)
  have h2:=(gd_leaf (F:=F) (k:=7) (isW_lt hc)).2.2
  exact(h1.trans (gq_leaf _)).trans (gq_simp1 h2.N)
variable {L:Ps→Ps}
theorem gq_body (hL:GL F L) (hQ:∀s,s.p≤F.length→Gq F s (L s)) {s:Ps} (hs:s.p≤F.length):Gq F s (bodyP F L s):=by
  have h1:=gd_lines hs
  refine Gq.ite (fun _=>?_) (fun _=>?_)
  ·exact(gq_lines hs).trans (Gq.node (k:=2) fun t ht _=>hQ t (by have:=h1.N;omega))
  ·exact(gq_lines hs).trans (gq_miss _)
def GQ (F:List Lf) (L:Ps→Ps):Prop:=∀s:Ps,s.p≤F.length→Gq F s (L s)
theorem gq_bran (hL:GL F L) (hQ:GQ F L) {s:Ps} (hs:s.p≤F.length):Gq F s (branP F L s):=by
  have h1:=gd_body hL hs
  have h2:=gd_want (F:=F) (c:=116) (by decide) h1.N
  have h3:=gd_body hL h2.N
  have h4:=Gd.loop (branch_c hL) _ _ rfl h3.N
  have q3:=((gq_body hL hQ hs).trans (gq_want (c:=116) _)).trans (gq_body hL hQ h2.N)
  have q4:=Gq.loop (branch_c hL) (fun s hs=>by
    split
    ·rename_i hc
     have h0:=(Gd.next (comes_lt hc (by decide))).1
     have g1:=gd_body hL h0.N
     have g2:=gd_want (F:=F) (c:=116) (by decide) g1.N
     exact(((Gq.next s).trans (gq_body hL hQ h0.N)).trans (gq_want (c:=116) _)).trans (gq_body hL hQ g2.N)
    ·exact Gq.refl s) _ _ rfl h3.N
  have q6:Gq F (loopP F.length (fun s=>if comes F [101] s=true then (bodyP F L (wantP F 116 (bodyP F L (nextP s))),true) else (s,false)) (bodyP F L (wantP F 116 (bodyP F L s)))) _:=Gq.ite (b:=comes F [108] _) (fun hc=>(Gq.next _).trans (gq_body hL hQ (Gd.next (comes_lt hc (by decide))).1.N)) (fun _=>Gq.refl _)
  exact((q3.trans q4).trans q6).trans (gq_want (c:=102) _)
theorem gq_do (hL:GL F L) (hQ:GQ F L) {s:Ps} (hs:s.p≤F.length):Gq F s (doP F L s):=by
  have h1:=gd_want (F:=F) (c:=100) (by decide) hs
  exact((gq_want (c:=100) s).trans (gq_body hL hQ h1.N)).trans (gq_want (c:=103) _)
theorem gq_words {s:Ps} (hs:s.p≤F.length):Gq F s (wordsP F s):=Gq.loop words_c (fun s _=>by
  split
  ·exact gq_leaf s
  ·exact Gq.refl s) _ s rfl hs
theorem gq_in {s:Ps} (hs:s.p<F.length):Gq F s (inP F s):=by
  have h0:=(Gd.next (N:=F.length) hs).1
  have h1:=h0.trans (gd_words h0.N)
  have q1:=(Gq.next s).trans (gq_words h0.N)
  refine Gq.ite (fun hc=>?_) (fun _=>Gq.ite (fun _=>?_) (fun _=>?_))
  ·have h2:=(Gd.next (comes_lt hc (by decide))).1
   exact(q1.trans (Gq.next _)).trans (gq_lines h2.N)
  ·exact q1.trans (gq_lines h1.N)
  ·exact q1.trans (gq_miss _)
theorem gq_each (hL:GL F L) (hQ:GQ F L) {s:Ps} (hs:s.p≤F.length):Gq F s (eachP F L s):=by
  have h1:Gd F.length 1 s (if (isW F s.p&&nameT (tx F s.p))=true then leafP 7 s else missP s):=Gd.ite (fun hc=>(gd_leaf (isW_lt ((Bool.and_eq_true _ _).mp hc).1)).1) (fun _=>gd_miss hs)
  have q1:Gq F s (if (isW F s.p&&nameT (tx F s.p))=true then leafP 7 s else missP s):=Gq.ite (fun _=>gq_leaf s) (fun _=>gq_miss s)
  unfold eachP
  generalize (if (isW F s.p&&nameT (tx F s.p))=true then leafP 7 s else missP s)=s1 at h1 q1
  have h3:=gd_lines h1.N
  have h2:Gd F.length 1 s1 (if comes F [59] s1=true then linesP F (nextP s1) else if comes F [107] (linesP F s1)=true then inP F (linesP F s1) else linesP F s1):=by
    refine Gd.ite (fun hc=>?_) (fun _=>Gd.ite (fun hc=>?_) (fun _=>h3.mono (by omega)))
    ·have h2:=(Gd.next (comes_lt hc (by decide))).1
     exact(h2.trans (gd_lines h2.N)).mono (by omega)
    ·simpa using h3.trans (gd_in (comes_lt hc (by decide)))
  have q2:Gq F s1 (if comes F [59] s1=true then linesP F (nextP s1) else if comes F [107] (linesP F s1)=true then inP F (linesP F s1) else linesP F s1):=by
    refine Gq.ite (fun hc=>?_) (fun _=>Gq.ite (fun hc=>?_) (fun _=>gq_lines h1.N))
    ·exact(Gq.next _).trans (gq_lines (Gd.next (comes_lt hc (by decide))).1.N)
    ·exact(gq_lines h1.N).trans (gq_in (comes_lt hc (by decide)))
  exact(q1.trans q2).trans (gq_do hL hQ h2.N)
theorem gq_item (hL:GL F L) (hQ:GQ F L) {s:Ps} (hs:s.p≤F.length):Gq F s (itemP F L s):=by
  have h1:=gd_take (F:=F) (cs:=[40]) (by decide) hs
  have h2:=gd_word h1.N
  have h3:=Gd.loop item_c _ _ rfl h2.N
  have h4:=gd_want (F:=F) (c:=41) (by decide) h3.N
  have h5:=gd_lines h4.N
  have q3:=Gq.loop (F:=F) item_c (fun s _=>by
    split
    ·exact(Gq.next s).trans (gq_word _)
    ·exact Gq.refl s) _ _ rfl h2.N
  have q5:=((((gq_take (F:=F) (cs:=[40]) s).trans (gq_word _)).trans q3).trans (gq_want (c:=41) _)).trans (gq_lines h4.N)
  refine Gq.ite (fun _=>?_) (fun _=>q5)
  exact q5.trans (Gq.node (k:=2) fun t ht _=>hQ t (by have:=h5.N;omega))
theorem gq_cases (hL:GL F L) (hQ:GQ F L) {s:Ps} (hs:s.p≤F.length):Gq F s (casesP F L s):=by
  have h1:=gd_word hs
  have h2:=gd_lines h1.N
  have h3:=gd_want (F:=F) (c:=107) (by decide) h2.N
  have h4:=gd_lines h3.N
  have q5:=Gq.loop (cases_c hL) (fun s hs=>by
    have q0:Gq F s (nodeP 15 (itemP F L) s):=Gq.node (k:=15) fun t ht _=>gq_item hL hQ (by omega)
    split
    ·rename_i hi
     have g0:=(item_go hL hi).1
     split
     ·rename_i hc
      exact(q0.trans (Gq.next _)).trans (gq_lines (Gd.next (comes_lt hc (by decide))).1.N)
     ·exact q0
    ·exact Gq.refl s) _ _ rfl h4.N
  exact(((((gq_word s).trans (gq_lines h1.N)).trans (gq_want (c:=107) _)).trans (gq_lines h3.N)).trans q5).trans (gq_want (c:=122) _)
theorem gq_ins (hL:GL F L) (hQ:GQ F L) (c:UInt8) {s:Ps} (hs:s.p≤F.length):Gq F s (insP F L c s):=by
  unfold insP
  have hb:=gd_body hL hs
  have qb:=gq_body hL hQ hs
  repeat' split
  ·exact qb.trans (gq_want (c:=41) _)
  ·exact gq_bran hL hQ hs
  ·exact qb.trans (gq_do hL hQ hb.N)
  ·exact gq_each hL hQ hs
  ·exact gq_cases hL hQ hs
  ·exact qb.trans (gq_want (c:=125) _)
theorem gq_comp (hL:GL F L) (hQ:GQ F L) {s:Ps} (h:compB F s=true):Gq F s (compP F L s):=by
  have h0:=comp_lt h
  have hc:([123,40,105,119,114,99]:List UInt8).contains (sg F s.p)=true:=((Bool.and_eq_true _ _).mp h).2
  refine Gq.comp hc fun t ht=>?_
  have h1:=(Gd.next (N:=F.length) (s:=t) (by omega)).1
  have h2:=gd_ins hL (sg F s.p) h1.N
  exact(gq_ins hL hQ _ h1.N).trans (gq_redirs h2.N)
theorem gq_def (hL:GL F L) (hQ:GQ F L) {s:Ps} (hs:s.p≤F.length):Gq F s (defP F L s):=by
  have h1:=gd_word hs
  have h2:=gd_take (F:=F) (cs:=[40]) (by decide) h1.N
  have h3:=gd_want (F:=F) (c:=41) (by decide) h2.N
  have q:=(((gq_word s).trans (gq_take (F:=F) (cs:=[40]) _)).trans (gq_want (c:=41) _)).trans (gq_lines h3.N)
  unfold defP
  exact Gq.ite (fun hc=>q.trans (gq_comp hL hQ hc)) (fun _=>q.trans (gq_miss _))
theorem gq_com (hL:GL F L) (hQ:GQ F L) {s:Ps} (hs:s.p≤F.length):Gq F s (comP F L s):=by
  unfold comP
  refine Gq.ite (fun hc=>gq_comp hL hQ hc) (fun _=>Gq.ite (fun hf=>?_) (fun _=>Gq.ite (fun _=>?_) (fun _=>gq_miss s)))
  ·exact Gq.nest (k:=16) fun t ht=>gq_def hL hQ (by omega)
  ·exact Gq.node (k:=5) fun t ht _=>gq_simp (by omega)
theorem gq_pip (hL:GL F L) (hQ:GQ F L) {s:Ps} (hs:s.p≤F.length):Gq F s (pipP F L s):=by
  refine Gq.ite (fun _=>Gq.node (k:=4) fun t ht _=>?_) (fun _=>gq_miss s)
  have h1:=gd_take (F:=F) (cs:=[33]) (by decide) (s:=t) (by omega)
  have h2:=gd_com hL h1.N
  exact((gq_take (F:=F) (cs:=[33]) t).trans (gq_com hL hQ h1.N)).trans (Gq.loop (pipIn_c hL) (fun s hs=>by
    split
    ·rename_i hc
     have g0:=(Gd.next (comes_lt hc (by decide))).1
     exact((Gq.next s).trans (gq_lines g0.N)).trans (gq_com hL hQ (gd_lines g0.N).N)
    ·exact Gq.refl s) _ _ rfl h2.N)
theorem gq_and (hL:GL F L) (hQ:GQ F L) {s:Ps} (hs:s.p≤F.length):Gq F s (andP F L s):=
  (gq_pip hL hQ hs).trans (Gq.loop (and_c hL) (fun s hs=>by
    split
    ·rename_i hc
     have g0:=(Gd.next (comes_lt hc (by decide))).1
     exact((Gq.next s).trans (gq_lines g0.N)).trans (gq_pip hL hQ (gd_lines g0.N).N)
    ·exact Gq.refl s) _ _ rfl (gd_pip hL hs).N)
theorem gq_sep {s:Ps} (hs:s.p≤F.length):Gq F s (sepP F s).1:=by
  unfold sepP
  split
  ·rename_i hc
   exact(Gq.next s).trans (gq_lines (Gd.next (comes_lt hc (by decide))).1.N)
  ·split
   ·exact gq_lines hs
   ·exact Gq.refl s
theorem gq_lst (hL:GL F L) (hQ:GQ F L):GQ F (lstP F L):=fun s hs=>Gq.loop (lst_c hL) (fun s hs=>by
  have h1:=Gd.node0 (k:=3) (s:=s) (f:=andP F L) (A:=2) (N:=F.length) fun t ht _=>gd_and hL (by omega)
  exact(Gq.node (k:=3) fun t ht _=>gq_and hL hQ (by omega)).trans (gq_sep h1.N)) _ s rfl hs
end
theorem gq_lstF (F:List Lf):∀n,GQ F (lstF F n)
  | 0=>fun s _=>Gq.refl s
  | n+1=>gq_lst (gd_lstF F n) (gq_lstF F n)
theorem gq_prog {F:List Lf} {L:Ps→Ps} (hL:GL F L) (hQ:GQ F L):∀m x,2*F.length+1-progM x=m→x.1.p≤F.length→Gq F x.1 (progP F L x).1:=by
  intro m
  induction m using Nat.strongRecOn with
  | _ m ih=>
    intro x hm hx
    rw[progP_eq hL x hx]
    have hr:Gq F x.1 (progC F L x).1.1:=by
      unfold progC
      split
      ·exact Gq.next _
      ·split
       ·exact Gq.node (k:=2) fun t ht _=>hQ t (by omega)
       ·split
        ·exact gq_leaf _
        ·exact Gq.refl _
    by_cases hc:(progC F L x).2=true
    ·have h1:=progC_ok hL x hx hc
     have h2:=progM_le h1.2.1
     rw[if_pos hc]
     exact hr.trans (ih _ (by omega) _ rfl h1.2.1)
    ·rw[if_neg hc]
     exact hr
theorem gq_parse (F:List Lf):Gq F (ps0 0) (parseT F):=Gq.node (k:=1) fun t ht _=>gq_prog (gd_lstF F (F.length+1)) (gq_lstF F (F.length+1)) _ (t,false) rfl (by rw[ht];exact Nat.zero_le _)
end Go.Proofs.YtgdifhhioahakaaGreatDoor
namespace Go.Proofs.YtgdifhhioahakaaGreatDoor
set_option linter.unusedVariables false
set_option linter.unusedSimpArgs false
set_option maxRecDepth 100000
def FoundP (F:List Lf) (sg:UInt8) (fo:Int):Prop:=fo = -1∨∃j:Nat,fo=(j:Int)∧sgnAt F j=sg
theorem scan_ok {F:List Lf} {sg:UInt8} {fo:Int} (h:FoundP F sg fo) (a e:Nat):FoundP F sg (scanF F sg fo a e):=by
  unfold scanF
  generalize List.range' a (e-a)=l
  induction l generalizing fo with
  | nil=>exact h
  | cons p r ih=>
    rw[List.foldl_cons]
    refine ih ?_
    by_cases hp:(sgnAt F p==sg)=true
    ·rw[if_pos hp];exact .inr ⟨p,rfl,by simpa using hp⟩
    ·rw[if_neg hp];exact h
theorem lastS_ok {F:List Lf} {sg:UInt8}:∀(G:List (Nat×Nat)) (s:Int×Nat),FoundP F sg s.1→FoundP F sg (lastS F sg s G).1
  | [],s,h=>h
  | g::G,s,h=>lastS_ok G _ (scan_ok h _ _)
theorem last_found {F:List Lf} {L:List Nd} {i:Nat} {x:Nd} (h:0≤lastL F L i x):∃j:Nat,lastL F L i x=(j:Int)∧sgnAt F j=endC x.kd:=by
  rcases lastS_ok (F:=F) (sg:=endC x.kd) (segS L i x) (-1,x.fr) (.inl rfl) with h1|h1
  ·unfold lastL at h;omega
  ·exact h1
theorem sgnAt_lt {F:List Lf} {j:Nat} {c:UInt8} (h:sgnAt F j=c) (hc:c≠0):∃z,F[j]? = some z∧sgnL z=c:=by
  unfold sgnAt at h
  cases hz:F[j]? with
  | none=>rw[hz] at h;exact absurd h.symm hc
  | some z=>rw[hz] at h;exact⟨z,rfl,h⟩
theorem endC_cmp {k:Nat} (h:endC k≠0):cmpK k=true:=by
  unfold endC at h
  unfold cmpK
  simp only[Bool.and_eq_true,decide_eq_true_eq]
  by_cases h9:k=9
  ·omega
  by_cases h10:k=10
  ·omega
  by_cases h11:k=11
  ·omega
  by_cases h12:k=12∨k=13
  ·omega
  by_cases h14:k=14
  ·omega
  ·exact absurd (by rw[if_neg h9,if_neg h10,if_neg h11,if_neg h12,if_neg h14]) h
theorem comp_all (F:List Lf):(∀x∈(parseT F).l,cmpK x.kd=true→([123,40,105,119,114,99]:List UInt8).contains (sg F x.fr)=true∧cknd (sg F x.fr)=x.kd∧x.fr<F.length)∧(parseT F).l.Pairwise fun x y=>cmpK x.kd=true→x.fr<y.fr:=by
  obtain⟨m,h1,h2,h3⟩:=(gq_parse F).f
  have e:(parseT F).l=m:=by rw[h1];rfl
  rw[e]
  refine⟨fun x hx hk=>?_,h3⟩
  have:=(h2 x hx).2.2 hk
  rw[(gd_parse29 F).2] at this
  exact this
theorem pair_ok (l:List UInt8) (hl:l.length≤900):PairOk (lvs3 l) (parseT (lvs3 l)).l:=by
  obtain⟨r1,r2⟩:=lvs3_rise l
  have hfb:=lvs3_fb l hl
  have htx:∀y∈lvs3 l,y.tx.length≤l.length:=fun y hy=>leavesZ_tx l _ y hy
  generalize lvs3 l=F at *
  obtain⟨h,r,hr⟩:=parse_row F
  have h0:(parseT F).l[0]? = some ⟨1,0,F.length, -1⟩:=by rw[hr];rfl
  have htt:=row_tt29 h h0
  have hlen:=parse_len29 F
  have hn:=hfb.n
  obtain⟨c1,c2⟩:=comp_all F
  refine⟨⟨hn,by omega,fun x hx=>?_,fun y hy=>by have:=htx y hy;omega⟩,fun y hy=>?_,fun k x hx hne h9=>?_⟩
  ·obtain⟨i,hi⟩:=List.mem_iff_getElem?.1 hx
   have:=htt i x hi
   have:=(h i x hi).le
   omega
  ·have:=r1 y hy;omega
  ·obtain⟨j,e1,e2⟩:=last_found h9
   obtain⟨z,e3,_⟩:=sgnAt_lt e2 hne
   have:=(c1 x (List.mem_of_getElem? hx) (endC_cmp hne)).2.2
   exact⟨_,z,j,List.getElem?_eq_getElem this,e1,e3⟩
end Go.Proofs.YtgdifhhioahakaaGreatDoor
namespace Go.Proofs.YtgdifhhioahakaaGreatDoor
set_option linter.unusedVariables false
set_option linter.unusedSimpArgs false
set_option maxRecDepth 100000
def Apart (p q:Int×Int):Prop:=p.1≠q.1∧p.1≠q.2∧p.2≠q.1∧p.2≠q.2
def onP (p:Int×Int) (a:Int):Prop:=a=p.1∨a=p.2
theorem apart_no {p q:Int×Int} (h:Apart p q) {a:Int} (hp:onP p a) (hq:onP q a):False:=by
  obtain⟨h1,h2,h3,h4⟩:=h
  rcases hp with hp|hp<;>rcases hq with hq|hq
  ·exact h1 (hp.symm.trans hq)
  ·exact h2 (hp.symm.trans hq)
  ·exact h3 (hp.symm.trans hq)
  ·exact h4 (hp.symm.trans hq)
theorem apart_one:∀{N:List (Int×Int)},N.Pairwise Apart→∀{p q:Int×Int} {a:Int},p∈N→q∈N→onP p a→onP q a→p=q
  | [],_,p,q,a,hp,_,_,_=>by cases hp
  | x::r,h,p,q,a,hp,hq,ha,hb=>by
    rw[List.pairwise_cons] at h
    rcases List.mem_cons.1 hp with rfl|hp'
    ·rcases List.mem_cons.1 hq with rfl|hq'
     ·rfl
     ·exact(apart_no (h.1 q hq') ha hb).elim
    ·rcases List.mem_cons.1 hq with rfl|hq
     ·exact(apart_no (h.1 p hp') hb ha).elim
     ·exact apart_one h.2 hp' hq ha hb
structure Mts (N:List (Int×Int)) (n:Int):Prop where
  ap:N.Pairwise Apart
  ne:∀p∈N,p.1≠p.2
  rg:∀p∈N,(0≤p.1∧p.1<n)∧0≤p.2∧p.2<n
theorem mateR_some {N:List (Int×Int)} {a v:Int} (h:mateR N a=some v):∃p∈N,(a=p.1∧v=p.2)∨(a≠p.1∧a=p.2∧v=p.1):=by
  unfold mateR at h
  split at h
  ·rename_i p hp
   have h1:=List.mem_of_find?_eq_some hp
   have h2:=List.find?_some hp
   simp only[Bool.or_eq_true,beq_iff_eq] at h2
   injection h with h
   refine⟨p,h1,?_⟩
   by_cases e:a=p.1
   ·rw[if_pos e] at h;exact .inl ⟨e,h.symm⟩
   ·rw[if_neg e] at h;exact .inr ⟨e,h2.resolve_left e,h.symm⟩
  ·cases h
theorem mate_twice {N:List (Int×Int)} {n a v:Int} (hN:Mts N n) (h:mateR N a=some v):mateR N v=some a∧v≠a∧0≤v∧v<n:=by
  obtain⟨p,hp,hw⟩:=mateR_some h
  have hne:=hN.ne p hp
  have hrg:=hN.rg p hp
  have hv:onP p v:=by
    rcases hw with h|h
    ·exact .inr h.2
    ·exact .inl h.2.2
  have hex:∃w,mateR N v=some w:=by
    cases hm:mateR N v with
    | some w=>exact⟨w,rfl⟩
    | none=>
      unfold mateR at hm
      split at hm
      ·cases hm
      ·rename_i hf
       rw[List.find?_eq_none] at hf
       have:=hf p hp
       rcases hv with e|e<;>simp[e] at this
  obtain⟨w,hw2⟩:=hex
  obtain⟨q,hq,hw3⟩:=mateR_some hw2
  have hvq:onP q v:=by
    rcases hw3 with h|h
    ·exact .inl h.1
    ·exact .inr h.2.1
  obtain rfl:=apart_one hN.ap hp hq hv hvq
  refine⟨?_,?_,?_⟩
  ·rw[hw2]
   congr 1
   rcases hw with ⟨e1,e2⟩|⟨e0,e1,e2⟩<;>rcases hw3 with ⟨e3,e4⟩|⟨e5,e3,e4⟩
   ·exact absurd (e3.symm.trans e2) hne
   ·omega
   ·omega
   ·exact absurd (e2.symm.trans e3) hne
  ·rcases hw with ⟨e1,e2⟩|⟨e0,e1,e2⟩<;>omega
  ·rcases hw with ⟨e1,e2⟩|⟨e0,e1,e2⟩<;>omega
end Go.Proofs.YtgdifhhioahakaaGreatDoor
namespace Go.Proofs.YtgdifhhioahakaaGreatDoor
set_option linter.unusedVariables false
set_option linter.unusedSimpArgs false
set_option maxRecDepth 100000
theorem res_parts {s:List UInt8} (h:wsgn s≠120):partsL s=[]:=by
  have key:s=[33]∨s=[123]∨s=[125]∨s=[105,102]∨s=[116,104,101,110]∨s=[101,108,105,102]∨s=[101,108,115,101]∨s=[102,105]∨s=[119,104,105,108,101]∨s=[117,110,116,105,108]∨s=[100,111]∨s=[100,111,110,101]∨s=[102,111,114]∨s=[105,110]∨s=[99,97,115,101]∨s=[101,115,97,99]:=by
    refine Classical.byContradiction fun hn=>h ?_
    simp only[not_or] at hn
    obtain⟨h1,h2,h3,h4,h5,h6,h7,h8,h9,h10,h11,h12,h13,h14,h15,h16⟩:=hn
    unfold wsgn
    simp only[h1,h2,h3,h4,h5,h6,h7,h8,h9,h10,h11,h12,h13,h14,h15,h16,or_self,if_false]
  rcases key with h|h|h|h|h|h|h|h|h|h|h|h|h|h|h|h
  all_goals (subst h;decide +kernel)
theorem res_qt {x:Lf} (h6:x.kd=6) (h:sgnL x≠120):qtL x=[]:=by
  have e:sgnL x=wsgn x.tx:=by unfold sgnL;rw[if_neg (by omega),if_neg (by omega),if_neg (by omega),if_pos h6]
  rw[e] at h
  unfold qtL
  rw[res_parts h]
  rfl
theorem scan_at {F:List Lf} {sg:UInt8} {fo:Int} {a e:Nat}:scanF F sg fo a e=fo∨∃j:Nat,scanF F sg fo a e=(j:Int)∧a≤j∧j<e∧sgnAt F j=sg:=by
  unfold scanF
  have key:∀(l:List Nat) (fo:Int),(∀p∈l,a≤p∧p<e)→l.foldl (fun fo p=>if (sgnAt F p==sg)=true then (p:Int) else fo) fo=fo∨∃j:Nat,l.foldl (fun fo p=>if (sgnAt F p==sg)=true then (p:Int) else fo) fo=(j:Int)∧a≤j∧j<e∧sgnAt F j=sg:=by
    intro l
    induction l with
    | nil=>intro fo _;exact .inl rfl
    | cons p r ih=>
      intro fo hl
      rw[List.foldl_cons]
      have hp:=hl p (by simp)
      rcases ih (if (sgnAt F p==sg)=true then (p:Int) else fo) (fun q hq=>hl q (List.mem_cons_of_mem _ hq)) with h|h
      ·rw[h]
       by_cases hs:(sgnAt F p==sg)=true
       ·rw[if_pos hs];exact .inr ⟨p,rfl,hp.1,hp.2,by simpa using hs⟩
       ·rw[if_neg hs];exact .inl rfl
      ·exact .inr h
  exact key _ _ fun p hp=>by
    have:=List.mem_range'_1.1 hp
    omega
theorem anc_in {L:List Nd} (h:RowOk L) {a:Nat} {p:Nd} (hp:L[a]? = some p):∀(b:Nat) (q:Nd),Anc L a b→L[b]? = some q→p.fr≤q.fr∧q.tt≤p.tt:=by
  intro b
  induction b using Nat.strongRecOn with
  | _ b ih=>
    intro q hA hq
    cases hA with
    | refl=>rw[hp] at hq;cases hq;exact⟨Nat.le_refl _,Nat.le_refl _⟩
    | @step _ c n h1 h2 h3 h4=>
      rw[hq] at h1
      cases h1
      obtain⟨u,m,k1,k2,_,k4,k5,k6,_⟩:=(h b q hq).u (by omega)
      obtain rfl:u=c:=by omega
      have:=ih u h3 m h4 k4
      omega
theorem child_on {L:List Nd} {u:Nat}:∀(b:Nat),Anc L u b→u<b→∃c q,L[c]? = some q∧q.up=(u:Int)∧u<c∧c≤b∧Anc L c b:=by
  intro b
  induction b using Nat.strongRecOn with
  | _ b ih=>
    intro hA hub
    cases hA with
    | refl=>omega
    | @step _ c n h1 h2 h3 h4=>
      by_cases hcu:c=u
      ·subst hcu
       exact⟨b,n,h1,h2,hub,Nat.le_refl _,.refl⟩
      ·have hle:=h4.le29
       obtain⟨d,q,e1,e2,e3,e4,e5⟩:=ih c h3 h4 (by omega)
       exact⟨d,q,e1,e2,e3,by omega,.step h1 h2 h3 e5⟩
theorem apart_row {L:List Nd} (h:RowOk L) {a:Nat} {p:Nd} (hp:L[a]? = some p):∀(b:Nat) (q:Nd),a<b→¬Anc L a b→L[b]? = some q→p.tt≤q.fr:=by
  intro b
  induction b using Nat.strongRecOn with
  | _ b ih=>
    intro q hab hno hq
    obtain⟨u,m,k1,k2,k3,k4,k5,k6,k7⟩:=(h b q hq).u (by omega)
    have hup:Anc L u b:=.step hq k1 k2 .refl
    rcases Nat.lt_trichotomy u a with hua|rfl|hua
    ·have hA:=anc_all h (b-1) u a k3 (by omega) (by omega)
     obtain⟨c,n,e1,e2,e3,e4,e5⟩:=child_on a hA hua
     have h1:=k7 c n (by omega) (by omega) e1 (by rw[e2,k1])
     have h2:=(anc_in h e1 a p e5 hp).2
     omega
    ·exact absurd hup hno
    ·have:=ih u k2 m hua (fun hA=>hno (hA.trans hup)) k4
     omega
theorem below_one {L:List Nd} (h:RowOk L) {a b j:Nat} {p q:Nd} (hab:a<b) (hp:L[a]? = some p) (hq:L[b]? = some q) (hj:j<p.tt) (hjq:q.fr≤j∧j<q.tt) (hg:∀(k:Nat) (y:Nd),L[k]? = some y→y.up=(a:Int)→¬(y.fr≤j∧j<y.tt)):False:=by
  by_cases hA:Anc L a b
  ·obtain⟨c,n,e1,e2,e3,e4,e5⟩:=child_on b hA hab
   have h2:=anc_in h e1 b q e5 hq
   exact hg c n e1 e2 ⟨by omega,by omega⟩
  ·have:=apart_row h hp b q hab hA hq
   omega
theorem lastS_gap (F:List Lf) (sg:UInt8):∀(G:List (Nat×Nat)) (s:Int×Nat),(lastS F sg s G).1=s.1∨∃(G1:List (Nat×Nat)) (g:Nat×Nat) (G2:List (Nat×Nat)) (j:Nat),G=G1++g::G2∧(lastS F sg s G).1=(j:Int)∧(lastS F sg s G1).2≤j∧j<g.1
  | [],s=>.inl rfl
  | g::G,s=>by
    rcases lastS_gap F sg G (scanF F sg s.1 s.2 g.1,g.2) with h|⟨G1,g',G2,j,e1,e2,e3,e4⟩
    ·rcases scan_at (F:=F) (sg:=sg) (fo:=s.1) (a:=s.2) (e:=g.1) with h1|⟨j,h1,h2,h3,_⟩
     ·exact .inl (h.trans h1)
     ·exact .inr ⟨[],g,G,j,rfl,h.trans h1,h2,h3⟩
    ·exact .inr ⟨g::G1,g',G2,j,by rw[e1];rfl,e2,e3,e4⟩
theorem lastS_snd (F:List Lf) (sg:UInt8):∀(G:List (Nat×Nat)) (s:Int×Nat),(lastS F sg s G).2=s.2∨∃g∈G,(lastS F sg s G).2=g.2
  | [],s=>.inl rfl
  | g::G,s=>by
    rcases lastS_snd F sg G (scanF F sg s.1 s.2 g.1,g.2) with h|⟨g',h1,h2⟩
    ·exact .inr ⟨g,by simp,h⟩
    ·exact .inr ⟨g',List.mem_cons_of_mem _ h1,h2⟩
theorem lastS_ge (F:List Lf) (sg:UInt8):∀(G:List (Nat×Nat)) (s:Int×Nat),G.Pairwise (fun g g'=>g.2≤g'.1)→(∀g∈G,g.1≤g.2)→∀g∈G,g.2≤(lastS F sg s G).2
  | [],s,_,_,g,hg=>by cases hg
  | a::G,s,hp,hl,g,hg=>by
    rw[List.pairwise_cons] at hp
    have ih:=lastS_ge F sg G (scanF F sg s.1 s.2 a.1,a.2) hp.2 (fun g hg=>hl g (List.mem_cons_of_mem _ hg))
    rcases List.mem_cons.1 hg with rfl|hg
    ·cases G with
     | nil=>exact Nat.le_refl _
     | cons b r=>
       have h1:=hp.1 b (by simp)
       have h2:=hl b (by simp)
       have h3:=ih b (by simp)
       exact Nat.le_trans h1 (Nat.le_trans h2 h3)
    ·exact ih g hg
theorem last_gap {F:List Lf} {L:List Nd} {N:Nat} (h:RowOk L) (h0:L[0]? = some ⟨1,0,N, -1⟩) {i:Nat} {x:Nd} (hx:L[i]? = some x) {j:Nat} (hj:lastL F L i x=(j:Int)):x.fr≤j∧j<x.tt∧∀(k:Nat) (y:Nd),L[k]? = some y→y.up=(i:Int)→¬(y.fr≤j∧j<y.tt):=by
  have kid:∀(k:Nat) (y:Nd),L[k]? = some y→y.up=(i:Int)→0<k∧x.fr≤y.fr∧y.fr≤y.tt∧y.tt≤x.tt:=fun k y hy hu=>by
    have hk:0<k:=Nat.pos_of_ne_zero fun e=>by
      subst e
      rw[h0] at hy
      cases hy
      have:(-1:Int)=(i:Int):=hu
      omega
    obtain⟨u,m,k1,_,_,k4,k5,k6,_⟩:=(h k y hy).u hk
    obtain rfl:u=i:=by omega
    rw[hx] at k4
    cases k4
    exact⟨hk,k5,(h k y hy).le,k6⟩
  have hin:∀k∈kidK L i L.length,∃y,L[k]? = some y∧y.up=(i:Int)∧ndAt L k=(y.fr,y.tt):=fun k hk=>by
    have hb:=(List.mem_filter.1 hk).2
    unfold kidB at hb
    split at hb
    ·rename_i y hy
     exact⟨y,hy,by simpa using hb,by unfold ndAt;rw[hy]⟩
    ·cases hb
  have hle:∀g∈segS L i x,x.fr≤g.1∧g.1≤g.2∧g.2≤x.tt:=fun g hg=>by
    unfold segS at hg
    rcases List.mem_append.1 hg with hg|hg
    ·obtain⟨k,hk,rfl⟩:=List.mem_map.1 hg
     obtain⟨y,hy,hu,e⟩:=hin k hk
     rw[e]
     have:=kid k y hy hu
     exact this.2
    ·rw[List.mem_singleton.1 hg]
     exact⟨(h i x hx).le,Nat.le_refl _,Nat.le_refl _⟩
  have hpw:(segS L i x).Pairwise fun g g'=>g.2≤g'.1:=by
    unfold segS
    rw[List.pairwise_append]
    refine⟨?_,by simp,fun g hg g' hg'=>?_⟩
    ·rw[List.pairwise_map]
     have hr:(kidK L i L.length).Pairwise (· < ·):=List.Pairwise.filter _ List.pairwise_lt_range
     refine List.Pairwise.imp_of_mem ?_ hr
     intro k k' hk hk' hkk
     obtain⟨y,hy,hu,e⟩:=hin k hk
     obtain⟨y',hy',hu',e'⟩:=hin k' hk'
     rw[e,e']
     obtain⟨_,_,_,_,_,_,_,_,k7⟩:=(h k' y' hy').u (by omega)
     exact k7 k y (kid k y hy hu).1 hkk hy (by rw[hu,hu'])
    ·rw[List.mem_singleton.1 hg']
     obtain⟨k,hk,rfl⟩:=List.mem_map.1 hg
     obtain⟨y,hy,hu,e⟩:=hin k hk
     rw[e]
     exact(kid k y hy hu).2.2.2
  unfold lastL at hj
  rcases lastS_gap F (endC x.kd) (segS L i x) (-1,x.fr) with h1|⟨G1,g,G2,j',e1,e2,e3,e4⟩
  ·rw[h1] at hj;exact absurd hj (by show (-1:Int)≠_;omega)
  ·obtain rfl:j'=j:=by rw[e2] at hj;omega
   rw[e1] at hle hpw
   rw[List.pairwise_append,List.pairwise_cons] at hpw
   have hg:=hle g (by simp)
   refine⟨?_,by omega,fun k y hy hu=>?_⟩
   ·rcases lastS_snd F (endC x.kd) G1 (-1,x.fr) with h2|⟨g',h2,h3⟩
    ·rw[h2] at e3;exact e3
    ·have:=hle g' (List.mem_append_left _ h2);omega
   ·have hmem:(y.fr,y.tt)∈segS L i x:=by
      have hkl:=(List.getElem?_eq_some_iff.1 hy).1
      unfold segS
      refine List.mem_append_left _ (List.mem_map.2 ⟨k,?_,by unfold ndAt;rw[hy]⟩)
      unfold kidK
      exact List.mem_filter.2 ⟨List.mem_range.2 hkl,by unfold kidB;rw[hy];simp[hu]⟩
    rw[e1] at hmem
    rcases List.mem_append.1 hmem with hm|hm
    ·have:=lastS_ge F (endC x.kd) G1 (-1,x.fr) hpw.1 (fun g hg=>(hle g (List.mem_append_left _ hg)).2.1) _ hm
     have:y.tt≤(lastS F (endC x.kd) (-1,x.fr) G1).2:=this
     omega
    ·rcases List.mem_cons.1 hm with hm|hm
     ·have:y.fr=g.1:=congrArg Prod.fst hm
      omega
     ·have:g.2≤y.fr:=hpw.2.1.1 _ hm
      omega
end Go.Proofs.YtgdifhhioahakaaGreatDoor
namespace Go.Proofs.YtgdifhhioahakaaGreatDoor
set_option linter.unusedVariables false
set_option linter.unusedSimpArgs false
set_option maxRecDepth 100000
theorem opn_end (k:Nat):([123,40,105,119,114,99]:List UInt8).contains (endC k)=false:=by
  unfold endC
  repeat' split
  all_goals decide
theorem ndP_from {F:List Lf} {L:List Nd} {k:Nat} {p:Int×Int} (hp:p∈ndP F L k):∃(x:Nd) (j:Nat),L[k]? = some x∧endC x.kd≠0∧lastL F L k x=(j:Int)∧sgnAt F j=endC x.kd∧p=(frAt F x.fr,frAt F j):=by
  unfold ndP at hp
  split at hp
  ·rename_i x hx
   by_cases h0:endC x.kd=0
   ·rw[if_pos h0] at hp;cases hp
   ·rw[if_neg h0] at hp
    by_cases h1:0≤lastL F L k x
    ·rw[if_pos h1] at hp
     obtain⟨j,e1,e2⟩:=last_found h1
     refine⟨x,j,hx,h0,e1,e2,?_⟩
     rw[List.mem_singleton.1 hp,e1,Int.toNat_natCast]
    ·rw[if_neg h1] at hp;cases hp
  ·cases hp
theorem fr_inj {F:List Lf} (hr:F.Pairwise fun a b=>a.fr<b.fr) {a b:Nat} (ha:a<F.length) (hb:b<F.length) (hne:a≠b):frAt F a≠frAt F b:=by
  have key:∀{a b:Nat},a<F.length→b<F.length→a<b→frAt F a<frAt F b:=fun {a b} ha hb hab=>by
    unfold frAt
    rw[List.getElem?_eq_getElem ha,List.getElem?_eq_getElem hb]
    exact List.pairwise_iff_getElem.1 hr a b ha hb hab
  rcases Nat.lt_or_gt_of_ne hne with h|h
  ·have:=key ha hb h;omega
  ·have:=key hb ha h;omega
theorem nd_mates (F:List Lf) (hr:F.Pairwise fun a b=>a.fr<b.fr) (n:Int) (hrg:∀y∈F,0≤y.fr∧y.fr<n):Mts ((List.range (parseT F).l.length).flatMap (ndP F (parseT F).l)) n:=by
  obtain⟨h,r,hr0⟩:=parse_row F
  have h0:(parseT F).l[0]? = some ⟨1,0,F.length, -1⟩:=by rw[hr0];rfl
  have htt:=row_tt29 h h0
  obtain⟨c1,c2⟩:=comp_all F
  generalize (parseT F).l=L at *
  have frm:∀{k:Nat} {p:Int×Int},p∈ndP F L k→∃(x:Nd) (j:Nat),L[k]? = some x∧cmpK x.kd=true∧lastL F L k x=(j:Int)∧sgnAt F j=endC x.kd∧x.fr<F.length∧j<F.length∧([123,40,105,119,114,99]:List UInt8).contains (sgnAt F x.fr)=true∧p=(frAt F x.fr,frAt F j):=fun {k p} hp=>by
    obtain⟨x,j,a1,a2,a3,a4,a5⟩:=ndP_from hp
    have hk:=endC_cmp a2
    obtain⟨b1,_,b3⟩:=c1 x (List.mem_of_getElem? a1) hk
    obtain⟨z,d1,_⟩:=sgnAt_lt a4 a2
    exact⟨x,j,a1,hk,a3,a4,b3,(List.getElem?_eq_some_iff.1 d1).1,b1,a5⟩
  have opne:∀{a b k:Nat},([123,40,105,119,114,99]:List UInt8).contains (sgnAt F a)=true→sgnAt F b=endC k→a≠b:=fun {a b k} ha hb e=>by
    subst e
    rw[hb,opn_end] at ha
    cases ha
  have rng:∀a,a<F.length→0≤frAt F a∧frAt F a<n:=fun a ha=>by
    unfold frAt
    rw[List.getElem?_eq_getElem ha]
    exact hrg _ (List.getElem_mem ha)
  refine⟨?_,fun p hp=>?_,fun p hp=>?_⟩
  ·rw[List.pairwise_flatMap]
   refine⟨fun k _=>?_,?_⟩
   ·unfold ndP
    split
    ·split
     ·exact List.Pairwise.nil
     ·split
      ·simp
      ·exact List.Pairwise.nil
    ·exact List.Pairwise.nil
   ·refine List.pairwise_lt_range.imp fun {k k'} hkk p hp p' hp'=>?_
    obtain⟨x,j,a1,a2,a3,a4,a5,a6,a7,rfl⟩:=frm hp
    obtain⟨x',j',b1,b2,b3,b4,b5,b6,b7,rfl⟩:=frm hp'
    refine⟨fr_inj hr a5 b5 ?_,fr_inj hr a5 b6 (opne a7 b4),fr_inj hr a6 b5 (fun e=>opne b7 a4 e.symm),fr_inj hr a6 b6 fun e=>?_⟩
    ·obtain⟨q1,q2⟩:=List.getElem?_eq_some_iff.1 a1
     obtain⟨q3,q4⟩:=List.getElem?_eq_some_iff.1 b1
     have:=List.pairwise_iff_getElem.1 c2 k k' q1 q3 hkk
     rw[q2,q4] at this
     have:=this a2
     omega
    ·subst e
     obtain⟨g1,g2,g3⟩:=last_gap h h0 a1 a3
     obtain⟨g4,g5,_⟩:=last_gap h h0 b1 b3
     exact below_one h hkk a1 b1 g2 ⟨g4,g5⟩ g3
  ·obtain⟨k,_,hp⟩:=List.mem_flatMap.1 hp
   obtain⟨x,j,a1,a2,a3,a4,a5,a6,a7,rfl⟩:=frm hp
   exact fr_inj hr a5 a6 (opne a7 a4)
  ·obtain⟨k,_,hp⟩:=List.mem_flatMap.1 hp
   obtain⟨x,j,a1,a2,a3,a4,a5,a6,a7,rfl⟩:=frm hp
   exact⟨rng _ a5,rng _ a6⟩
end Go.Proofs.YtgdifhhioahakaaGreatDoor
namespace Go.Proofs.YtgdifhhioahakaaGreatDoor
set_option linter.unusedVariables false
set_option linter.unusedSimpArgs false
set_option maxRecDepth 100000
def WordOk (x:Lf):Prop:=(qtL x).Pairwise Apart∧∀p∈qtL x,p.1≠p.2
theorem qt_in {x:Lf} {p:Int×Int} (hp:p∈qtL x):(x.fr≤p.1∧p.1<x.fr+(x.tx.length:Int))∧x.fr≤p.2∧p.2<x.fr+(x.tx.length:Int):=by
  unfold qtL at hp
  obtain⟨q,hq,hp⟩:=List.mem_flatMap.1 hp
  obtain⟨f,t,h1,h2,h3,h4,_⟩:=part_two hq
  unfold qt1 at hp
  split at hp
  ·cases hp
  ·rw[List.mem_singleton.1 hp]
   simp only
   omega
theorem all_mates (F:List Lf) (n:Int) (hr:F.Pairwise fun a b=>a.fr+(a.tx.length:Int)≤b.fr) (hne:∀y∈F,1≤y.tx.length) (hrg:∀y∈F,0≤y.fr∧y.fr+(y.tx.length:Int)≤n) (hw:∀y∈F,WordOk y):Mts ((List.range (parseT F).l.length).flatMap (ndP F (parseT F).l)++F.flatMap lfP) n:=by
  have hr1:F.Pairwise fun a b=>a.fr<b.fr:=by
    refine List.Pairwise.imp_of_mem ?_ hr
    intro a b ha _ h
    have:=hne a ha
    omega
  have hN:=nd_mates F hr1 n (fun y hy=>by have:=hrg y hy;have:=hne y hy;omega)
  have hlf:∀(y:Lf) (p:Int×Int),p∈lfP y→y.kd=6∧p∈qtL y:=fun y p hp=>by
    unfold lfP at hp
    split at hp
    ·rename_i h;exact⟨h,hp⟩
    ·cases hp
  refine⟨?_,fun p hp=>?_,fun p hp=>?_⟩
  ·rw[List.pairwise_append]
   refine⟨hN.ap,?_,fun p hp q hq=>?_⟩
   ·rw[List.pairwise_flatMap]
    refine⟨fun y hy=>?_,hr.imp fun {a b} hab p hp q hq=>?_⟩
    ·unfold lfP
     split
     ·exact(hw y hy).1
     ·exact List.Pairwise.nil
    ·have h1:=qt_in (hlf a p hp).2
     have h2:=qt_in (hlf b q hq).2
     exact⟨by omega,by omega,by omega,by omega⟩
   ·obtain⟨y,hy,hq⟩:=List.mem_flatMap.1 hq
    obtain⟨h6,hq⟩:=hlf y q hq
    have h2:=qt_in hq
    have hs:sgnL y=120:=Classical.byContradiction fun h=>by rw[res_qt h6 h] at hq;cases hq
    obtain⟨k,_,hp⟩:=List.mem_flatMap.1 hp
    obtain⟨x,j,a1,a2,a3,a4,a5⟩:=ndP_from hp
    obtain⟨c1,_⟩:=comp_all F
    obtain⟨b1,_,b3⟩:=c1 x (List.mem_of_getElem? a1) (endC_cmp a2)
    have far:∀a:Nat,(∃z,F[a]? = some z∧sgnL z≠120)→frAt F a<y.fr∨y.fr+(y.tx.length:Int)≤frAt F a:=fun a ⟨z,hz,hzs⟩=>by
      obtain⟨i,hi,hiy⟩:=List.mem_iff_getElem.1 hy
      obtain⟨q1,q2⟩:=List.getElem?_eq_some_iff.1 hz
      have e:frAt F a=z.fr:=by unfold frAt;rw[hz]
      rw[e]
      rcases Nat.lt_trichotomy a i with h|h|h
      ·have:=List.pairwise_iff_getElem.1 hr1 a i q1 hi h
       rw[q2,hiy] at this
       exact .inl this
      ·subst h
       rw[q2] at hiy
       rw[hiy] at hzs
       exact absurd hs hzs
      ·have:=List.pairwise_iff_getElem.1 hr i a hi q1 h
       rw[q2,hiy] at this
       exact .inr this
    have f1:=far x.fr ⟨F[x.fr],List.getElem?_eq_getElem b3,fun e=>by
      have:sg F x.fr=120:=by unfold sg;rw[List.getElem?_eq_getElem b3];exact e
      rw[this] at b1
      revert b1
      decide⟩
    obtain⟨z,d1,d2⟩:=sgnAt_lt a4 a2
    have f2:=far j ⟨z,d1,fun e=>by
      rw[e] at d2
      have:=d2
      unfold endC at this
      repeat' split at this
      all_goals (revert this;decide)⟩
    rw[a5]
    exact⟨by show frAt F x.fr≠_;omega,by show frAt F x.fr≠_;omega,by show frAt F j≠_;omega,by show frAt F j≠_;omega⟩
  ·rcases List.mem_append.1 hp with hp|hp
   ·exact hN.ne p hp
   ·obtain⟨y,hy,hq⟩:=List.mem_flatMap.1 hp
    exact(hw y hy).2 p (hlf y p hq).2
  ·rcases List.mem_append.1 hp with hp|hp
   ·exact hN.rg p hp
   ·obtain⟨y,hy,hq⟩:=List.mem_flatMap.1 hp
    have h1:=qt_in (hlf y p hq).2
    have h2:=hrg y hy
    exact⟨⟨by omega,by omega⟩,by omega,by omega⟩
end Go.Proofs.YtgdifhhioahakaaGreatDoor
namespace Go.Proofs.YtgdifhhioahakaaGreatDoor
set_option linter.unusedVariables false
set_option linter.unusedSimpArgs false
set_option maxRecDepth 100000
theorem leafZ_tx {l:List UInt8} {t:Tk} (h1:t.fr<t.to) (h2:t.to≤l.length) {y:Lf} (hy:y∈leafZ l (tz3 t)):y.fr=(t.fr:Int)∧y.tx.length=t.to-t.fr:=by
  unfold leafZ at hy
  split at hy
  ·rename_i hc
   rw[List.mem_singleton.1 hy]
   refine⟨rfl,?_⟩
   show (txZ l (tz3 t)).length=_
   unfold txZ
   rw[if_pos hc.1]
   show (sub l (t.fr:Int).toNat (t.to:Int).toNat).length=_
   rw[Int.toNat_natCast,Int.toNat_natCast]
   unfold sub
   simp
   omega
  ·cases hy
theorem leaves_far (l:List UInt8):∀(ts:List Tk) (x:Nat),tileP l ts x→(∀y∈leavesZ l (ts.map tz3),(x:Int)≤y.fr∧1≤y.tx.length∧y.fr+(y.tx.length:Int)≤(l.length:Int))∧(leavesZ l (ts.map tz3)).Pairwise (fun a b=>a.fr+(a.tx.length:Int)≤b.fr)
  | [],x,_=>⟨fun y hy=>(by have hy:y∈([]:List Lf):=hy;cases hy),List.Pairwise.nil⟩
  | t::r,x,⟨h1,h2,h3,h4,h5,h6⟩=>by
    obtain⟨i1,i2⟩:=leaves_far l r t.to h6
    have e:leavesZ l ((t::r).map tz3)=leafZ l (tz3 t)++leavesZ l (r.map tz3):=rfl
    have ht:∀y∈leafZ l (tz3 t),y.fr=(t.fr:Int)∧y.tx.length=t.to-t.fr:=fun y hy=>leafZ_tx (by omega) h3 hy
    rw[e]
    refine⟨fun y hy=>?_,?_⟩
    ·rcases List.mem_append.1 hy with hy|hy
     ·have:=ht y hy;omega
     ·have:=i1 y hy;omega
    ·rw[List.pairwise_append]
     refine⟨?_,i2,fun a ha b hb=>?_⟩
     ·unfold leafZ
      split<;>simp
     ·have:=ht a ha;have:=i1 b hb;omega
theorem mts_of (l:List UInt8) (hw:∀y∈lvs3 l,WordOk y):Mts (prL l) (l.length:Int):=by
  obtain⟨h1,h2⟩:=leaves_far l _ 0 (tile_lexL l)
  unfold prL
  exact all_mates (lvs3 l) _ h2 (fun y hy=>(h1 y hy).2.1) (fun y hy=>⟨(h1 y hy).1,(h1 y hy).2.2⟩) hw
end Go.Proofs.YtgdifhhioahakaaGreatDoor
namespace Go.Proofs.YtgdifhhioahakaaGreatDoor
set_option linter.unusedVariables false
set_option linter.unusedSimpArgs false
set_option maxRecDepth 100000
theorem rProgram_p9 (st:Stk) (f:Bool) (c b:UInt8) (a:Int):P3 (pls st) a (rProgram st f c b a):=by
  unfold rProgram
  repeat' (refine ite_ok (P3 (pls st) a) (fun _=>?_) (fun _=>?_))
  all_goals first
    | exact .inl rfl
    | exact .inr (.inl rfl)
    | exact .inr (.inr (by simp[pls,List.map_tail]))
theorem rPlain_p9 (st:Stk) (f:Bool) (c b:UInt8) (a:Int):P3 (pls st) a (rPlain st f c b a):=by
  unfold rPlain
  repeat' (refine ite_ok (P3 (pls st) a) (fun _=>?_) (fun _=>?_))
  all_goals first
    | exact rProgram_p9 _ _ _ _ _
    | exact .inl rfl
    | exact .inr (.inl rfl)
    | (refine .inl ?_;cases st<;>rfl)
    | (refine .inr (.inr ?_);cases st<;>rfl)
theorem rStep_p9 (st:Stk) (f:Bool) (b:UInt8) (a:Int):P3 (pls st) a (rStep st f b a)∨∃c p r,st=(c,p)::r∧c.toNat=76∧P3 (pls r) a (rStep st f b a):=by
  match st with
  | []=>exact .inl (.inl rfl)
  | (c,p)::r=>
    by_cases h:c.toNat=76
    ·by_cases h1:b.toNat=40
     ·left;unfold rStep;simp only;rw[if_pos h,if_pos h1];exact .inl rfl
     ·by_cases h2:b.toNat=123
      ·left;unfold rStep;simp only;rw[if_pos h,if_neg h1,if_pos h2]
       cases r with
       | nil=>exact .inl rfl
       | cons y r=>exact ite_ok (P3 (pls ((c,p)::y::r)) a) (fun _=>.inl rfl) (fun _=>.inl rfl)
      ·refine .inr ⟨c,p,r,rfl,h,?_⟩
       unfold rStep;simp only;rw[if_pos h,if_neg h1,if_neg h2]
       refine ite_ok (P3 (pls r) a) (fun _=>.inl rfl) (fun _=>?_)
       cases r with
       | nil=>exact .inl rfl
       | cons y r=>exact rPlain_p9 _ _ _ _ _
    ·left
     unfold rStep
     simp only
     rw[if_neg h]
     refine ite_ok (P3 (pls ((c,p)::r)) a) (fun _=>?_) (fun _=>?_)
     ·exact ite_ok (P3 (pls ((c,p)::r)) a) (fun _=>.inl rfl) (fun _=>rPlain_p9 ((67,p)::r) _ _ _ _)
     ·refine ite_ok (P3 (pls ((c,p)::r)) a) (fun _=>?_) (fun _=>rPlain_p9 _ _ _ _ _)
      exact ite_ok (P3 (pls ((c,p)::r)) a) (fun _=>.inr (.inr rfl)) (fun _=>rPlain_p9 ((65,p)::r) _ _ _ _)
theorem alv_x {l:List UInt8} {f k:Nat}:Alive l f k↔(f:Int)∈pls (XT l k):=by simp[Alive,FT,pls]
theorem pls_rt9 (l:List UInt8) (k:Nat):pls (rAt l k).1=pls (XT l k)++[0]:=by rw[rAt_split];simp[pls]
theorem push_kp {l:List UInt8} {f g:Nat} (h:Alive l f (f+1)) (hg:Alive l g f):Alive l g (f+1)∨∃c r,(rAt l f).1=(c,(g:Int))::r∧c.toNat=76:=by
  obtain⟨A,c,hF,hs⟩:=new_at h
  have hX:pls (XT l (f+1))=(f:Int)::pls A.reverse:=by
    have e:XT l (f+1)=(FT l (f+1)).reverse:=by simp[FT]
    rw[e,hF];simp[pls]
  have hgf:=alive_lt hg
  have hnot:(f:Int)∉pls (rAt l f).1:=by
    rw[pls_rt9]
    intro hh
    rcases List.mem_append.1 hh with hh|hh
    ·have:=alive_lt (alv_x.2 hh);omega
    ·simp at hh;omega
  have hpl:pls (rStep (rAt l f).1 (rAt l f).2 (l.getD f 0) (f:Int)).1=(f:Int)::(pls A.reverse++[0]):=by
    show pls (rAt l (f+1)).1=_
    rw[pls_rt9,hX];rfl
  have hgx:=alv_x.1 hg
  have hgA:(g:Int)∈pls A.reverse→Alive l g (f+1):=fun hh=>alv_x.2 (by rw[hX];exact List.mem_cons_of_mem _ hh)
  rcases rStep_p9 (rAt l f).1 (rAt l f).2 (l.getD f 0) (f:Int) with h3|⟨c',p,r,he,hc,h3⟩
  ·have e:=h3.push hpl hnot
   rw[pls_rt9] at e
   rw[←(List.append_left_inj _).1 e] at hgx
   exact .inl (hgA hgx)
  ·have e:=h3.push hpl (fun hh=>hnot (by rw[he];exact List.mem_cons_of_mem _ hh))
   have e2:pls (XT l f)++[0]=p::pls A.reverse++[0]:=by
     rw[←pls_rt9,he,List.cons_append,e]
     rfl
   rw[(List.append_left_inj _).1 e2] at hgx
   rcases List.mem_cons.1 hgx with hh|hh
   ·exact .inr ⟨c',r,by rw[he,hh],hc⟩
   ·exact .inl (hgA hh)
theorem parts_pj {l:List UInt8} {q:Prt} (h:q∈partsL l):∃f,PI l q f:=by
  rw[parts_flat] at h
  obtain⟨f,hf,hq⟩:=List.mem_flatMap.1 h
  obtain⟨q0,h0,rfl⟩:=List.mem_map.1 hq
  exact⟨f,pi_of (List.mem_range.1 hf) h0⟩
theorem prog_suf (x:UInt8×Int) (r:Stk) (f:Bool) (c b:UInt8) (a:Int):r <:+ (rProgram (x::r) f c b a).1:=by
  unfold rProgram
  repeat' split
  all_goals first
    | exact List.suffix_refl r
    | exact List.suffix_cons x r
    | exact(List.suffix_cons x r).trans (List.suffix_cons _ _)
theorem plain_suf (x:UInt8×Int) (r:Stk) (f:Bool) (c b:UInt8) (a:Int):r <:+ (rPlain (x::r) f c b a).1:=by
  obtain⟨x1,x2⟩:=x
  unfold rPlain
  by_cases h1:c.toNat=84∨c.toNat=67∨c.toNat=80
  ·rw[if_pos h1];exact prog_suf (x1,x2) r f c b a
  rw[if_neg h1]
  by_cases h2:c.toNat=88
  ·rw[if_pos h2];exact List.suffix_refl r
  rw[if_neg h2]
  by_cases h3:c.toNat=83
  ·rw[if_pos h3]
   by_cases g:b.toNat=39
   ·rw[if_pos g];exact List.suffix_refl r
   ·rw[if_neg g];exact List.suffix_cons _ r
  rw[if_neg h3]
  by_cases h4:c.toNat=35
  ·rw[if_pos h4]
   by_cases g:b.toNat=10
   ·rw[if_pos g];exact List.suffix_refl r
   ·rw[if_neg g];exact List.suffix_cons _ r
  rw[if_neg h4]
  by_cases h5:c.toNat=66
  ·rw[if_pos h5]
   by_cases g:b.toNat=96
   ·rw[if_pos g];exact List.suffix_refl r
   rw[if_neg g]
   by_cases g2:b.toNat=92
   ·rw[if_pos g2];exact(List.suffix_cons _ r).trans (List.suffix_cons _ _)
   ·rw[if_neg g2];exact List.suffix_cons _ r
  rw[if_neg h5]
  by_cases b0:b.toNat=92
  ·rw[if_pos b0];exact(List.suffix_cons _ r).trans (List.suffix_cons _ _)
  rw[if_neg b0]
  by_cases b1:b.toNat=36
  ·rw[if_pos b1];exact(List.suffix_cons _ r).trans (List.suffix_cons _ _)
  rw[if_neg b1]
  by_cases b2:b.toNat=96
  ·rw[if_pos b2];exact(List.suffix_cons _ r).trans (List.suffix_cons _ _)
  rw[if_neg b2]
  by_cases h6:c.toNat=65∨c.toNat=82
  ·rw[if_pos h6]
   by_cases g:b.toNat=40
   ·rw[if_pos g];exact(List.suffix_cons _ r).trans (List.suffix_cons _ _)
   rw[if_neg g]
   by_cases g2:b.toNat=41∧c.toNat=82
   ·rw[if_pos g2];exact List.suffix_refl r
   rw[if_neg g2]
   by_cases g3:b.toNat=41
   ·rw[if_pos g3];exact List.suffix_cons _ r
   ·rw[if_neg g3];exact List.suffix_cons _ r
  rw[if_neg h6]
  by_cases h7:c.toNat=68
  ·rw[if_pos h7]
   by_cases g:b.toNat=34
   ·rw[if_pos g];exact List.suffix_refl r
   ·rw[if_neg g];exact List.suffix_cons _ r
  rw[if_neg h7]
  by_cases b3:b.toNat=34
  ·rw[if_pos b3];exact(List.suffix_cons _ r).trans (List.suffix_cons _ _)
  rw[if_neg b3]
  by_cases b4:b.toNat=125
  ·rw[if_pos b4];exact List.suffix_refl r
  rw[if_neg b4]
  by_cases b5:b.toNat=39∧c.toNat=86
  ·rw[if_pos b5];exact(List.suffix_cons _ r).trans (List.suffix_cons _ _)
  ·rw[if_neg b5];exact List.suffix_cons _ r
theorem step_suf {c:UInt8} {p:Int} {r:Stk} (f:Bool) (b:UInt8) (a:Int) (hc:c.toNat≠76):r <:+ (rStep ((c,p)::r) f b a).1:=by
  have e:rStep ((c,p)::r) f b a=if c.toNat=79 then (if b.toNat=40 then ((65,p)::r,false) else rPlain ((67,p)::r) f 67 b a) else if c.toNat=69 then (if b.toNat=41 then (r,f) else rPlain ((65,p)::r) f 65 b a) else rPlain ((c,p)::r) f c b a:=by
    conv=>lhs;unfold rStep
    simp only
    rw[if_neg hc]
  rw[e]
  split
  ·split
   ·exact List.suffix_cons _ r
   ·exact plain_suf _ r f 67 b a
  ·split
   ·split
    ·exact List.suffix_refl r
    ·exact plain_suf _ r f 65 b a
   ·exact plain_suf _ r f c b a
end Go.Proofs.YtgdifhhioahakaaGreatDoor
namespace Go.Proofs.YtgdifhhioahakaaGreatDoor
set_option linter.unusedVariables false
set_option linter.unusedSimpArgs false
set_option maxRecDepth 100000
theorem dol_suf {c:UInt8} {p:Int} {y:UInt8×Int} {r:Stk} (f:Bool) (b:UInt8) (a:Int) (hc:c.toNat=76):r <:+ (rStep ((c,p)::y::r) f b a).1:=by
  obtain⟨d,p2⟩:=y
  have e:rStep ((c,p)::(d,p2)::r) f b a=if b.toNat=40 then ((79,p)::(d,p2)::r,true) else if b.toNat=123 then (if d.toNat=68∨d.toNat=73 then ((73,p)::(d,p2)::r,f) else ((86,p)::(d,p2)::r,f)) else if b.toNat=36 then ((d,p2)::r,f) else rPlain ((d,p2)::r) f d b a:=by
    conv=>lhs;unfold rStep
    simp only
    rw[if_pos hc]
  rw[e]
  have h1:r <:+ (d,p2)::r:=List.suffix_cons _ r
  by_cases b1:b.toNat=40
  ·rw[if_pos b1];exact h1.trans (List.suffix_cons _ _)
  rw[if_neg b1]
  by_cases b2:b.toNat=123
  ·rw[if_pos b2]
   by_cases g:d.toNat=68∨d.toNat=73
   ·rw[if_pos g];exact h1.trans (List.suffix_cons _ _)
   ·rw[if_neg g];exact h1.trans (List.suffix_cons _ _)
  rw[if_neg b2]
  by_cases b3:b.toNat=36
  ·rw[if_pos b3];exact h1
  ·rw[if_neg b3];exact plain_suf _ r f d b a
theorem suf_alive {l:List UInt8} {g k:Nat} {R:Stk} (h:(R++[(84,0)]) <:+ (rAt l (k+1)).1) (hg:(g:Int)∈pls R):Alive l g (k+1):=by
  rw[rAt_split] at h
  obtain⟨t,ht⟩:=h
  rw[←List.append_assoc] at ht
  have e:=(List.append_left_inj _).1 ht
  rw[alv_x,←e,pls,List.map_append]
  exact List.mem_append_right _ hg
theorem one_dies {l:List UInt8} {g f k:Nat} (hgf:g≠f) (hg:Alive l g k) (hf:Alive l f k) (dg:∀c:UInt8,(c,(g:Int))∈XT l k→c.toNat≠76) (df:∀c:UInt8,(c,(f:Int))∈XT l k→c.toNat≠76):Alive l g (k+1)∨Alive l f (k+1):=by
  rw[alv_x] at hg hf
  have hs:(rAt l (k+1)).1=(rStep (rAt l k).1 (rAt l k).2 (l.getD k 0) k).1:=rfl
  have hx:=rAt_split l k
  generalize (rAt l k).2=fl at hs
  generalize XT l k=X at hg hf dg df hx
  rw[hx] at hs
  have pick:∀(p:Int) (Z:List Int),(g:Int)∈p::Z→(f:Int)∈p::Z→(g:Int)∈Z∨(f:Int)∈Z:=fun p Z h1 h2=>by
    rcases List.mem_cons.1 h1 with e1|h1
    ·rcases List.mem_cons.1 h2 with e2|h2
     ·omega
     ·exact .inr h2
    ·exact .inl h1
  cases X with
  | nil=>cases hg
  | cons x Z=>
    obtain⟨c,p⟩:=x
    by_cases hc:c.toNat=76
    ·have g1:(g:Int)∈pls Z:=by
       rcases List.mem_cons.1 (show (g:Int)∈p::pls Z from hg) with e|h
       ·exact absurd hc (dg c (by rw[e];exact List.mem_cons_self))
       ·exact h
     have f1:(f:Int)∈pls Z:=by
       rcases List.mem_cons.1 (show (f:Int)∈p::pls Z from hf) with e|h
       ·exact absurd hc (df c (by rw[e];exact List.mem_cons_self))
       ·exact h
     cases Z with
     | nil=>cases g1
     | cons y Z=>
       have hsuf:(Z++[(84,0)]) <:+ (rAt l (k+1)).1:=by
         rw[hs];exact dol_suf _ _ _ hc
       exact(pick y.2 (pls Z) g1 f1).imp (suf_alive hsuf) (suf_alive hsuf)
    ·have hsuf:(Z++[(84,0)]) <:+ (rAt l (k+1)).1:=by
       rw[hs];exact step_suf _ _ _ hc
     exact(pick p (pls Z) hg hf).imp (suf_alive hsuf) (suf_alive hsuf)
theorem no_dol {l:List UInt8} {q:Prt} {f k:Nat} (h:PI l q f) (h12:q.mode≠12) (hk:Alive l f k) (hn:¬Alive l f (k+1)):∀c:UInt8,(c,(f:Int))∈XT l k→c.toNat≠76:=by
  intro c hc h76
  have hm:(c,(f:Int))∈FT l k:=by simpa [FT] using hc
  obtain⟨e,_⟩:=dol_top hm h76
  subst e
  rcases h.kind with ⟨_,_,h3⟩|h3
  ·exact hn (h3 c hm h76)
  ·exact h12 h3.1
theorem parts_apart {l:List UInt8} {q q':Prt} {g f:Nat} (h:PI l q g) (h':PI l q' f) (hgf:g<f) (m:q.mode≠12) (m':q'.mode≠12) (o:q.op=false) (o':q'.op=false) :
    ∃t t':Nat,q.to=t∧q'.to=t'∧g+2≤t∧f+2≤t'∧t≠t'∧t≠f+1:=by
  rcases h.kind with ⟨_,h1|⟨_,e,a1,a2,a3,a4,a5⟩,ah⟩|h1
  ·rw[h1.1] at o;cases o
  ·rcases h'.kind with ⟨_,h2|⟨_,e',b1,b2,b3,b4,b5⟩,bh⟩|h2
   ·rw[h2.1] at o';cases o'
   ·refine⟨e,e',a3,b3,by omega,by omega,fun he=>?_,fun he=>?_⟩
    ·subst he
     obtain⟨k,rfl⟩:∃k,e=k+1:=⟨e-1,by omega⟩
     have hg:=a5 k (by omega) (by omega)
     have hf:=b5 k (by omega) (by omega)
     rcases one_dies (by omega) hg hf (no_dol h m hg a4) (no_dol h' m' hf b4) with r|r
     ·exact a4 r
     ·exact b4 r
    ·subst he
     have hg:=a5 f hgf (by omega)
     rcases push_kp h'.al hg with r|⟨c,r,hr,hc⟩
     ·exact a4 r
     ·rw[rAt_split] at hr
      cases hX:XT l f with
      | nil=>rw[alv_x,hX] at hg;cases hg
      | cons x Z=>
        rw[hX,List.cons_append] at hr
        injection hr with hr _
        exact no_dol h m hg a4 c (by rw[hX,hr];exact List.mem_cons_self) hc
   ·exact absurd h2.1 m'
  ·exact absurd h1.1 m
theorem word_ok (x:Lf):WordOk x:=by
  constructor
  ·unfold qtL
   rw[List.pairwise_flatMap]
   refine⟨fun q _=>?_,?_⟩
   ·unfold qt1
    split<;>simp
   ·have hr:=parts_rise x.tx
    rw[frs,List.pairwise_map] at hr
    refine hr.imp_of_mem fun {q q'} hq hq' hlt=>?_
    intro a ha b hb
    unfold qt1 at ha hb
    split at ha
    ·cases ha
    rename_i c1
    split at hb
    ·cases hb
    rename_i c2
    rw[List.mem_singleton.1 ha,List.mem_singleton.1 hb]
    obtain⟨g,hg⟩:=parts_pj hq
    obtain⟨f,hf⟩:=parts_pj hq'
    have e1:=hg.fr
    have e2:=hf.fr
    obtain⟨t,t',u1,u2,u3,u4,u5,u6⟩:=parts_apart hg hf (by omega) (fun h=>c1 (.inl (.inl h))) (fun h=>c2 (.inl (.inl h))) (Bool.eq_false_iff.2 fun h=>c1 (.inr h)) (Bool.eq_false_iff.2 fun h=>c2 (.inr h))
    refine⟨?_,?_,?_,?_⟩<;>simp only<;>omega
  ·intro p hp
   unfold qtL at hp
   obtain⟨q,hq,hp⟩:=List.mem_flatMap.1 hp
   obtain⟨f,t,h1,h2,h3,h4,h5,_⟩:=part_two hq
   unfold qt1 at hp
   split at hp
   ·cases hp
   ·rename_i c1
    rw[List.mem_singleton.1 hp]
    have:=h5 (fun h=>c1 (.inl (.inl h))) (Bool.eq_false_iff.2 fun h=>c1 (.inr h))
    simp only
    omega
end Go.Proofs.YtgdifhhioahakaaGreatDoor
namespace Go.Proofs.YtgdifhhioahakaaGreatDoor
open Go.RowKit
set_option linter.unusedVariables false
set_option linter.unusedSimpArgs false
set_option maxRecDepth 100000
attribute [local go_sem] Oper.semAt_some
set_option maxHeartbeats 4000000 in
theorem motionTwice_in (l:List UInt8) (w:World) (hl0:l.length≤9223372036854775807) (hM:l.length≤60→Mts (prL l) (l.length:Int)) :
    Calls Tryz.prog 7 #[.string ⟨l.toArray⟩] w fun e w'=>e=.returned (.bool true)∧Below w.heap.size w w':=by
  by_cases hl:l.length≤60
  ·have hc:=fun a W=>Mate_m l (pair_ok l (by omega)) (by omega) a W
   have H:=Lib.hid (And.intro hc (hM hl))
   clear hc hM
   have t0:decide (60<(l.length:Int))=false:=by simp;omega
   go_enter Tryz.func7,Tryz.ntmps7
   go_wp2_with (
     (go_at_call 14
      refine(awake29_c _).mono ?_
      rintro e w1 ⟨rfl,hb⟩
      have H1:=Lib.hid hb
      clear hb))
   go_loopw [3] (fun i wr=>∃q:Nat,q≤l.length∧i=.int .i64 q∧Below w.heap.size w wr) (fun i _=>l.length-(intOf i).toNat)
   case atStart=>exact⟨0,Nat.zero_le _,rfl,H1.out⟩
   case round=>
     obtain⟨q,hq,rfl,hb⟩:=hrel
     have hsz:=hb.size
     by_cases hlt:q<l.length
     ·have u1:(q:Int)<(l.length:Int):=by omega
      have h1:=H.out.1 (q:Int) wr
      cases hm:mateR (prL l) (q:Int) with
      | none=>
        rw[hm] at h1
        have HR:=Lib.hid (And.intro h1 hb)
        clear h1 hb hm
        go_wp2_with (
          (go_at_call 15
           refine HR.out.1.mono ?_
           rintro e w3 ⟨rfl,hb3⟩
           simp only[Option.getD_none,Option.isSome_none]
           have H3:=Lib.hid (HR.out.2.trans (hb3.mono hsz))
           clear hb3))
        exact⟨⟨q+1,by omega,by go_num,H3.out⟩,by simp[intOf];omega⟩
      | some v=>
        obtain⟨m1,m2,m3,m4⟩:=mate_twice H.out.2 hm
        have h2:=fun W=>H.out.1 v W
        rw[m1] at h2
        rw[hm] at h1
        have t1:(v==(q:Int))=false:=beq_false_of_ne m2
        have t2:decide (v<0)=false:=by simp;omega
        have t3:decide ((l.length:Int)≤v)=false:=by simp;omega
        have HR:=Lib.hid (And.intro h1 (And.intro h2 hb))
        clear h1 h2 hb hm m1 m2 m3 m4
        go_wp2_with (first
          | (go_at_call 15
             with_reducible refine HR.out.1.mono ?_
             rintro e w3 ⟨rfl,hb3⟩
             simp only[Option.getD_some,Option.isSome_some]
             have H3:=Lib.hid (HR.out.2.2.trans (hb3.mono hsz))
             have hsz3:=H3.out.size
             clear hb3)
          | (go_at_call 15
             with_reducible refine(HR.out.2.1 _).mono ?_
             rintro e w4 ⟨rfl,hb4⟩
             simp only[Option.getD_some,Option.isSome_some]
             have H4:=Lib.hid (H3.out.trans (hb4.mono hsz3))
             clear hb4))
        exact⟨⟨q+1,by omega,by go_num,H4.out⟩,by simp[intOf];omega⟩
     ·obtain rfl:q=l.length:=by omega
      have HE:=Lib.hid hb
      clear hb
      go_wp2_with fail
      go_ret
      exact⟨rfl,HE.out⟩
  ·have t0:decide (60<(l.length:Int))=true:=by simp;omega
   go_enter Tryz.func7,Tryz.ntmps7
   go_wp2_with (
     (go_at_call 14
      refine(awake29_c _).mono ?_
      rintro e w1 ⟨rfl,hb⟩
      have H1:=Lib.hid hb
      clear hb))
   go_ret
   exact⟨rfl,H1.out⟩
theorem motionTwice_w (l:List UInt8) (w:World) (hl0:l.length≤9223372036854775807) :
    Calls Tryz.prog 7 #[.string ⟨l.toArray⟩] w fun e w'=>e=.returned (.bool true)∧Below w.heap.size w w':=motionTwice_in l w hl0 (fun _=>mts_of l (fun y _=>word_ok y))
end Go.Proofs.YtgdifhhioahakaaGreatDoor
