/- The parser's plain law: two states alike, the one farther on in a longer row: all pieces keep them alike. No program is in sight. -/
import Derived.Test.YtokmnkmpdnlnaaaGreatDoorPl13
namespace Go.Proofs.YtokmnkmpdnlnaaaGreatDoor
set_option linter.unusedVariables false
set_option linter.unusedSimpArgs false
set_option maxRecDepth 100000
def kds (l:List Nd):List Nat:=l.map Nd.kd
theorem kds_to:∀(l:List Nd) (i t:Nat),kds (ndTo l i t)=kds l
  | [],_,_=>rfl
  | n::r,0,t=>rfl
  | n::r,i+1,t=>by show n.kd::kds (ndTo r i t)=_;rw[kds_to r i t];rfl
theorem kds_app (l m:List Nd):kds (l++m)=kds l++kds m:=List.map_append
structure SR (k:Nat) (A C:List Nat) (s t:Ps):Prop where
  p:s.p=t.p+k
  d:s.deep=t.deep
  l:∃z,kds s.l=A++z∧kds t.l=C++z
theorem sr_p {k:Nat} {A C:List Nat} {s t:Ps} (h:SR k A C s t):SR k A C (nextP s) (nextP t):=⟨by show s.p+1=t.p+1+k;rw[h.p];omega,h.d,h.l⟩
theorem sr_node {k n:Nat} {A C:List Nat} {f g:Ps→Ps} {s t:Ps} (h:SR k A C s t) (hf:∀s t,SR k A C s t→SR k A C (f s) (g t)):SR k A C (nodeP n f s) (nodeP n g t):=by
  obtain⟨z,h1,h2⟩:=h.l
  have h3:SR k A C {s with l:=s.l++[⟨n,s.p,0,s.up⟩],up:=(s.l.length:Int)} {t with l:=t.l++[⟨n,t.p,0,t.up⟩],up:=(t.l.length:Int)}:=
    ⟨h.p,h.d,z++[n],by show kds (s.l++_)=_;rw[kds_app,h1,List.append_assoc];rfl,by show kds (t.l++_)=_;rw[kds_app,h2,List.append_assoc];rfl⟩
  have h4:=hf _ _ h3
  obtain⟨y,a,b⟩:=h4.l
  exact⟨h4.p,h4.d,y,by show kds (ndTo _ _ _)=_;rw[kds_to];exact a,by show kds (ndTo _ _ _)=_;rw[kds_to];exact b⟩
theorem sr_nest {k n:Nat} {A C:List Nat} {f g:Ps→Ps} {s t:Ps} (h:SR k A C s t) (hf:∀s t,SR k A C s t→SR k A C (f s) (g t)):SR k A C (nestP n f s) (nestP n g t):=by
  have h1:SR k A C {s with deep:=s.deep+1} {t with deep:=t.deep+1}:=⟨h.p,by show s.deep+1=t.deep+1;rw[h.d],h.l⟩
  have h2:=sr_node (n:=n) h1 hf
  exact⟨h2.p,by show (nodeP n f _).deep-1=(nodeP n g _).deep-1;rw[h2.d],h2.l⟩
theorem sr_ite {k:Nat} {A C:List Nat} {b d:Bool} {x x' y y':Ps} (hb:b=d) (h:d=true→SR k A C x y) (h':d=false→SR k A C x' y'):SR k A C (if b=true then x else x') (if d=true then y else y'):=by
  subst hb
  cases b
  ·exact h' rfl
  ·exact h rfl
def SC (k:Nat) (A C:List Nat) (r q:Ps×Bool):Prop:=SR k A C r.1 q.1∧r.2=q.2
theorem sc_ite {k:Nat} {A C:List Nat} {b d:Bool} {x x' y y':Ps×Bool} (hb:b=d) (h:d=true→SC k A C x y) (h':d=false→SC k A C x' y'):SC k A C (if b=true then x else x') (if d=true then y else y'):=by
  subst hb
  cases b
  ·exact h' rfl
  ·exact h rfl
section
variable {X B:List Lf} {A C:List Nat}
theorem get_sh (i:Nat):(X++B)[i+X.length]? = B[i]? := by rw[List.getElem?_append_right (by omega),Nat.add_sub_cancel]
theorem sg_sh (i:Nat):sg (X++B) (i+X.length)=sg B i:=by unfold sg;rw[get_sh]
theorem isW_sh (i:Nat):isW (X++B) (i+X.length)=isW B i:=by unfold isW;rw[get_sh]
theorem tx_sh (i:Nat):tx (X++B) (i+X.length)=tx B i:=by unfold tx;rw[get_sh]
variable {s t:Ps}
theorem sr_comes (cs:List UInt8) (h:SR X.length A C s t):comes (X++B) cs s=comes B cs t:=by unfold comes;rw[h.p,sg_sh]
theorem sr_isW (h:SR X.length A C s t):isW (X++B) s.p=isW B t.p:=by rw[h.p,isW_sh]
theorem sr_tx (h:SR X.length A C s t):tx (X++B) s.p=tx B t.p:=by rw[h.p,tx_sh]
theorem sr_sg (h:SR X.length A C s t):sg (X++B) s.p=sg B t.p:=by rw[h.p,sg_sh]
theorem sr_sg1 (h:SR X.length A C s t):sg (X++B) (s.p+1)=sg B (t.p+1):=by rw[h.p,Nat.add_right_comm,sg_sh]
theorem sr_redirB (h:SR X.length A C s t):redirB (X++B) s=redirB B t:=by unfold redirB;rw[sr_sg h,sr_sg1 h]
theorem sr_compB (h:SR X.length A C s t):compB (X++B) s=compB B t:=by unfold compB;rw[sr_comes _ h,h.d]
theorem sr_cmdB (h:SR X.length A C s t):cmdB (X++B) s=cmdB B t:=by unfold cmdB;rw[sr_sg h,sr_redirB h,sr_compB h]
theorem sr_pipeB (h:SR X.length A C s t):pipeB (X++B) s=pipeB B t:=by unfold pipeB;rw[sr_sg h,sr_cmdB h]
theorem sr_funB (h:SR X.length A C s t):funB (X++B) s=funB B t:=by unfold funB;rw[sr_sg h,sr_sg1 h,sr_tx h,h.d]
theorem sr_itemB (h:SR X.length A C s t):itemB (X++B) s=itemB B t:=by unfold itemB;rw[sr_sg h,sr_isW h]
theorem sr_take (cs:List UInt8) (h:SR X.length A C s t):SR X.length A C (takeP (X++B) cs s) (takeP B cs t):=sr_ite (sr_comes cs h) (fun _=>sr_p h) (fun _=>h)
theorem sr_miss (h:SR X.length A C s t):SR X.length A C (missP s) (missP t):=sr_node h fun _ _ h=>h
theorem sr_leaf (n:Nat) (h:SR X.length A C s t):SR X.length A C (leafP n s) (leafP n t):=sr_node h fun _ _ h=>sr_p h
theorem sr_want (c:UInt8) (h:SR X.length A C s t):SR X.length A C (wantP (X++B) c s) (wantP B c t):=sr_ite (sr_comes [c] h) (fun _=>sr_p h) (fun _=>sr_miss h)
theorem sr_word (h:SR X.length A C s t):SR X.length A C (wordP (X++B) s) (wordP B t):=sr_ite (sr_isW h) (fun _=>sr_leaf 7 h) (fun _=>sr_miss h)
theorem sr_loopF {c d:Ps→Ps×Bool} (hc:∀s t,SR X.length A C s t→SC X.length A C (c s) (d t)):∀n s t,SR X.length A C s t→SR X.length A C (loopF c n s) (loopF d n t)
  | 0,s,t,h=>h
  | n+1,s,t,h=>by
    have h1:=hc s t h
    unfold loopF
    exact sr_ite h1.2 (fun _=>sr_loopF hc n _ _ h1.1) (fun _=>h1.1)
theorem sr_loop {c d:Ps→Ps×Bool} (hc:∀s t,SR X.length A C s t→SC X.length A C (c s) (d t)) (h:SR X.length A C s t):SR X.length A C (loopP (X++B).length c s) (loopP B.length d t):=by
  unfold loopP
  rw[show (X++B).length+1-s.p=B.length+1-t.p by rw[h.p,List.length_append];omega]
  exact sr_loopF hc _ _ _ h
theorem sr_lines (h:SR X.length A C s t):SR X.length A C (linesP (X++B) s) (linesP B t):=sr_loop (fun _ _ h=>sc_ite (sr_comes _ h) (fun _=>⟨sr_p h,rfl⟩) (fun _=>⟨h,rfl⟩)) h
theorem sr_redir (h:SR X.length A C s t):SR X.length A C (redirP (X++B) s) (redirP B t):=sr_node h fun _ _ h=>sr_word (sr_take _ (sr_take _ h))
theorem sr_redirs (h:SR X.length A C s t):SR X.length A C (redirsP (X++B) s) (redirsP B t):=sr_loop (fun _ _ h=>sc_ite (sr_redirB h) (fun _=>⟨sr_redir h,rfl⟩) (fun _=>⟨h,rfl⟩)) h
theorem sr_simp1 (h:SR X.length A C s t):SR X.length A C (simp1P (X++B) s) (simp1P B t):=sr_loop (fun _ _ h=>sc_ite (sr_redirB h) (fun _=>⟨sr_redir h,rfl⟩) (fun _=>sc_ite (sr_isW h) (fun _=>⟨sr_leaf 7 h,rfl⟩) (fun _=>⟨h,rfl⟩))) h
theorem sr_simp (h:SR X.length A C s t):SR X.length A C (simpP (X++B) s) (simpP B t):=by
  have h1:=sr_loop (X:=X) (B:=B) (A:=A) (C:=C) (c:=fun s=>if redirB (X++B) s=true then (redirP (X++B) s,true) else if (isW (X++B) s.p&&asgT (tx (X++B) s.p))=true then (leafP 6 s,true) else (s,false)) (d:=fun s=>if redirB B s=true then (redirP B s,true) else if (isW B s.p&&asgT (tx B s.p))=true then (leafP 6 s,true) else (s,false))
    (fun _ _ h=>sc_ite (sr_redirB h) (fun _=>⟨sr_redir h,rfl⟩) (fun _=>sc_ite (by rw[sr_isW h,sr_tx h]) (fun _=>⟨sr_leaf 6 h,rfl⟩) (fun _=>⟨h,rfl⟩))) h
  exact sr_ite (sr_isW h1) (fun _=>sr_simp1 (sr_leaf 7 h1)) (fun _=>h1)
variable {L M:Ps→Ps} (hL:∀s t,SR X.length A C s t→SR X.length A C (L s) (M t))
include hL
theorem sr_body (h:SR X.length A C s t):SR X.length A C (bodyP (X++B) L s) (bodyP B M t):=sr_ite (sr_pipeB (sr_lines h)) (fun _=>sr_node (sr_lines h) hL) (fun _=>sr_miss (sr_lines h))
theorem sr_bran (h:SR X.length A C s t):SR X.length A C (branP (X++B) L s) (branP B M t):=by
  have h1:=sr_loop (X:=X) (B:=B) (A:=A) (C:=C) (c:=fun s=>if comes (X++B) [101] s=true then (bodyP (X++B) L (wantP (X++B) 116 (bodyP (X++B) L (nextP s))),true) else (s,false)) (d:=fun s=>if comes B [101] s=true then (bodyP B M (wantP B 116 (bodyP B M (nextP s))),true) else (s,false))
    (fun _ _ h=>sc_ite (sr_comes _ h) (fun _=>⟨sr_body hL (sr_want _ (sr_body hL (sr_p h))),rfl⟩) (fun _=>⟨h,rfl⟩)) (sr_body (B:=B) hL (sr_want (B:=B) 116 (sr_body (B:=B) hL h)))
  exact sr_want 102 (sr_ite (sr_comes _ h1) (fun _=>sr_body hL (sr_p h1)) (fun _=>h1))
theorem sr_do (h:SR X.length A C s t):SR X.length A C (doP (X++B) L s) (doP B M t):=sr_want 103 (sr_body hL (sr_want 100 h))
omit hL in
theorem sr_words (h:SR X.length A C s t):SR X.length A C (wordsP (X++B) s) (wordsP B t):=sr_loop (fun _ _ h=>sc_ite (sr_isW h) (fun _=>⟨sr_leaf 7 h,rfl⟩) (fun _=>⟨h,rfl⟩)) h
omit hL in
theorem sr_in (h:SR X.length A C s t):SR X.length A C (inP (X++B) s) (inP B t):=by
  have h1:=sr_words (B:=B) (sr_p h)
  exact sr_ite (sr_comes _ h1) (fun _=>sr_lines (sr_p h1)) (fun _=>sr_ite (sr_comes _ h1) (fun _=>sr_lines h1) (fun _=>sr_miss h1))
theorem sr_each (h:SR X.length A C s t):SR X.length A C (eachP (X++B) L s) (eachP B M t):=by
  have h1:SR X.length A C (if (isW (X++B) s.p&&nameT (tx (X++B) s.p))=true then leafP 7 s else missP s) (if (isW B t.p&&nameT (tx B t.p))=true then leafP 7 t else missP t):=sr_ite (by rw[sr_isW h,sr_tx h]) (fun _=>sr_leaf 7 h) (fun _=>sr_miss h)
  unfold eachP
  exact sr_do hL (sr_ite (sr_comes _ h1) (fun _=>sr_lines (sr_p h1)) (fun _=>sr_ite (sr_comes _ (sr_lines h1)) (fun _=>sr_in (sr_lines h1)) (fun _=>sr_lines h1)))
theorem sr_item (h:SR X.length A C s t):SR X.length A C (itemP (X++B) L s) (itemP B M t):=by
  have h1:=sr_lines (B:=B) (sr_want (B:=B) 41 (sr_loop (X:=X) (B:=B) (A:=A) (C:=C) (c:=fun s=>if comes (X++B) [124] s=true then (wordP (X++B) (nextP s),true) else (s,false)) (d:=fun s=>if comes B [124] s=true then (wordP B (nextP s),true) else (s,false))
    (fun _ _ h=>sc_ite (sr_comes _ h) (fun _=>⟨sr_word (sr_p h),rfl⟩) (fun _=>⟨h,rfl⟩)) (sr_word (B:=B) (sr_take (B:=B) [40] h))))
  exact sr_ite (sr_pipeB h1) (fun _=>sr_node h1 hL) (fun _=>h1)
theorem sr_cases (h:SR X.length A C s t):SR X.length A C (casesP (X++B) L s) (casesP B M t):=
  sr_want 122 (sr_loop (fun _ _ h=>sc_ite (sr_itemB h) (fun _=>by
    have h1:=sr_node (n:=15) h (fun _ _ h=>sr_item (B:=B) hL h)
    exact sc_ite (sr_comes _ h1) (fun _=>⟨sr_lines (sr_p h1),rfl⟩) (fun _=>⟨h1,rfl⟩)) (fun _=>⟨h,rfl⟩)) (sr_lines (sr_want 107 (sr_lines (sr_word h)))))
theorem sr_ins (c:UInt8) (h:SR X.length A C s t):SR X.length A C (insP (X++B) L c s) (insP B M c t):=by
  unfold insP
  repeat' split
  ·exact sr_want 41 (sr_body hL h)
  ·exact sr_bran hL h
  ·exact sr_do hL (sr_body hL h)
  ·exact sr_each hL h
  ·exact sr_cases hL h
  ·exact sr_want 125 (sr_body hL h)
theorem sr_comp (h:SR X.length A C s t):SR X.length A C (compP (X++B) L s) (compP B M t):=by
  unfold compP
  rw[sr_sg h]
  exact sr_nest h fun _ _ h=>sr_redirs (sr_ins hL _ (sr_p h))
theorem sr_def (h:SR X.length A C s t):SR X.length A C (defP (X++B) L s) (defP B M t):=by
  have h1:=sr_lines (B:=B) (sr_want (B:=B) 41 (sr_take (B:=B) [40] (sr_word (B:=B) h)))
  exact sr_ite (sr_compB h1) (fun _=>sr_comp hL h1) (fun _=>sr_miss h1)
theorem sr_com (h:SR X.length A C s t):SR X.length A C (comP (X++B) L s) (comP B M t):=
  sr_ite (sr_compB h) (fun _=>sr_comp hL h) (fun _=>sr_ite (sr_funB h) (fun _=>sr_nest h fun _ _ h=>sr_def hL h) (fun _=>sr_ite (sr_cmdB h) (fun _=>sr_node h fun _ _ h=>sr_simp h) (fun _=>sr_miss h)))
theorem sr_pipIn (h:SR X.length A C s t):SR X.length A C (pipInP (X++B) L s) (pipInP B M t):=
  sr_loop (fun _ _ h=>sc_ite (sr_comes _ h) (fun _=>⟨sr_com hL (sr_lines (sr_p h)),rfl⟩) (fun _=>⟨h,rfl⟩)) (sr_com hL (sr_take [33] h))
theorem sr_pip (h:SR X.length A C s t):SR X.length A C (pipP (X++B) L s) (pipP B M t):=sr_ite (sr_pipeB h) (fun _=>sr_node h fun _ _ h=>sr_pipIn hL h) (fun _=>sr_miss h)
theorem sr_and (h:SR X.length A C s t):SR X.length A C (andP (X++B) L s) (andP B M t):=
  sr_loop (fun _ _ h=>sc_ite (sr_comes _ h) (fun _=>⟨sr_pip hL (sr_lines (sr_p h)),rfl⟩) (fun _=>⟨h,rfl⟩)) (sr_pip hL h)
theorem sr_lst (h:SR X.length A C s t):SR X.length A C (lstP (X++B) L s) (lstP B M t):=
  sr_loop (fun _ _ h=>by
    have h1:=sr_node (n:=3) h (fun _ _ h=>sr_and (B:=B) hL h)
    have h2:=sr_lines (B:=B) (sr_p h1)
    have h3:=sr_lines (B:=B) h1
    exact sc_ite (sr_comes _ h1) (fun _=>⟨h2,sr_pipeB h2⟩) (fun _=>sc_ite (sr_comes _ h1) (fun _=>⟨h3,sr_pipeB h3⟩) (fun _=>⟨h1,rfl⟩))) h
end
theorem sr_lstF {X B:List Lf} {A C:List Nat}:∀n s t,SR X.length A C s t→SR X.length A C (lstF (X++B) n s) (lstF B n t)
  | 0,s,t,h=>h
  | n+1,s,t,h=>sr_lst (sr_lstF n) h
theorem sr_prog {X B:List Lf} {A C:List Nat} (n:Nat) {s t:Ps} (b:Bool) (h:SR X.length A C s t) :
    SR X.length A C (progP (X++B) (lstF (X++B) n) (s,b)).1 (progP B (lstF B n) (t,b)).1:=by
  have key:∀m (s t:Ps) (b:Bool),SR X.length A C s t→SR X.length A C (loopF (progC (X++B) (lstF (X++B) n)) m (s,b)).1 (loopF (progC B (lstF B n)) m (t,b)).1:=by
    intro m
    induction m with
    | zero=>intro s t b h;exact h
    | succ m ih=>
      intro s t b h
      have h1:(s.p<(X++B).length)=(t.p<B.length):=by rw[h.p,List.length_append];exact propext ⟨fun _=>by omega,fun _=>by omega⟩
      unfold loopF progC
      simp only[sr_comes [110] h,sr_pipeB h,h1]
      by_cases c1:comes B [110] t=true
      ·simp only[c1,if_true]
       exact ih _ _ _ (sr_p h)
      ·simp only[c1,if_false,Bool.false_eq_true]
       by_cases c2:(!b&&pipeB B t)=true
       ·simp only[c2,if_true]
        exact ih _ _ _ (sr_node h (sr_lstF n))
       ·simp only[c2,if_false,Bool.false_eq_true]
        by_cases c3:t.p<B.length
        ·simp only[c3,if_true]
         exact ih _ _ _ (sr_leaf 17 h)
        ·simp only[c3,if_false,Bool.false_eq_true]
         exact h
  unfold progP
  rw[show 2*(X++B).length+2-progM (s,b)=2*B.length+2-progM (t,b) by unfold progM;simp only[h.p,List.length_append];omega]
  exact key _ _ _ _ h
end Go.Proofs.YtokmnkmpdnlnaaaGreatDoor
