/- The parser's plain law: a row of leaves, and the same with a newline and more behind it: what is made of the first without Errors and Missings is made of the other one, too. No program is in sight. -/
import Derived.Test.YtokmnkmpdnlnaaaGreatDoorJn13
namespace Go.Proofs.YtokmnkmpdnlnaaaGreatDoor
set_option linter.unusedVariables false
set_option linter.unusedSimpArgs false
set_option maxRecDepth 100000
def bad (l:List Nd):Nat:=(kds l).countP fun k=>k==17||k==18
theorem bad_app (l m:List Nd):bad (l++m)=bad l+bad m:=by unfold bad;rw[kds_app,List.countP_append]
theorem bad_to (l:List Nd) (i t:Nat):bad (ndTo l i t)=bad l:=by unfold bad;rw[kds_to]
def inS (k:Nat) (s:Ps):Ps:={s with l:=s.l++[⟨k,s.p,0,s.up⟩],up:=(s.l.length:Int)}
theorem bad_in {k:Nat} (hk:(k==17||k==18)=false) (s:Ps):bad (inS k s).l=bad s.l:=by
  show bad (s.l++[_])=_
  rw[bad_app]
  show _+List.countP _ [k]=_
  rw[List.countP_singleton,hk]
  rfl
theorem bad_node (k:Nat) (f:Ps→Ps) (s:Ps):bad (nodeP k f s).l=bad (f (inS k s)).l:=bad_to _ _ _
theorem bad_miss (s:Ps):bad (missP s).l=bad s.l+1:=by
  show bad (nodeP 18 id s).l=_
  rw[bad_node]
  show bad (s.l++[_])=_
  rw[bad_app]
  rfl
theorem bad_err (s:Ps):bad (leafP 17 s).l=bad s.l+1:=by
  show bad (nodeP 17 nextP s).l=_
  rw[bad_node]
  show bad (s.l++[_])=_
  rw[bad_app]
  rfl
theorem bad_le {N b:Nat} {s t:Ps} (h:Gd N b s t):bad s.l≤bad t.l:=by
  obtain⟨m,e,_⟩:=h.f
  rw[e,bad_app]
  omega
theorem cs_split {N a b:Nat} {s u v:Ps} (h1:Gd N a s u) (h2:Gd N b u v) (h:bad v.l=bad s.l):bad u.l=bad s.l∧bad v.l=bad u.l:=by
  have:=bad_le h1
  have:=bad_le h2
  omega
theorem node_eq {k:Nat} {f g:Ps→Ps} {s:Ps} (h:g (inS k s)=f (inS k s)):nodeP k g s=nodeP k f s:=by
  show (let s2:=g (inS k s);({s2 with up:=s.up,l:=ndTo s2.l s.l.length s2.p}:Ps))=_
  rw[h]
  rfl
theorem nest_eq {k:Nat} {f g:Ps→Ps} {s:Ps} (h:g (inS k {s with deep:=s.deep+1})=f (inS k {s with deep:=s.deep+1})):nestP k g s=nestP k f s:=by
  unfold nestP
  rw[node_eq h]
def We (N:Nat) (s x y:Ps):Prop:=bad x.l=bad s.l→x.p<N→y=x
def Se (s x y:Ps):Prop:=bad x.l=bad s.l→y=x
theorem Se.we {N:Nat} {s x y:Ps} (h:Se s x y):We N s x y:=fun a _=>h a
theorem We.comp {N a b:Nat} {s u u':Ps} (g g':Ps→Ps) (h1:Gd N a s u) (h2:Gd N b u (g u)) (hw:We N s u u') (hv:We N u (g u) (g' u)):We N s (g u) (g' u'):=fun hb hp=>by
  obtain⟨b1,b2⟩:=cs_split h1 h2 hb
  rw[hw b1 (Nat.lt_of_le_of_lt h2.p hp)]
  exact hv b2 hp
theorem Se.comp {N a b:Nat} {s u u':Ps} (g g':Ps→Ps) (h1:Gd N a s u) (h2:Gd N b u (g u)) (hw:Se s u u') (hv:Se u (g u) (g' u)):Se s (g u) (g' u'):=fun hb=>by
  obtain⟨b1,b2⟩:=cs_split h1 h2 hb
  rw[hw b1]
  exact hv b2
theorem We.need {N a b:Nat} {s u u':Ps} (g g':Ps→Ps) (h1:Gd N a s u) (h2:Gd N b u (g u)) (hw:We N s u u') (nd:bad (g u).l=bad u.l→u.p<N) (hv:Se u (g u) (g' u)):Se s (g u) (g' u'):=fun hb=>by
  obtain⟨b1,b2⟩:=cs_split h1 h2 hb
  rw[hw b1 (nd b2)]
  exact hv b2
theorem se_node {k:Nat} (hk:(k==17||k==18)=false) {f g:Ps→Ps} {s:Ps} (h:Se (inS k s) (f (inS k s)) (g (inS k s))):Se s (nodeP k f s) (nodeP k g s):=fun hb=>by
  rw[bad_node] at hb
  exact node_eq (h (by rw[hb,bad_in hk]))
theorem we_node {N k:Nat} (hk:(k==17||k==18)=false) {f g:Ps→Ps} {s:Ps} (h:We N (inS k s) (f (inS k s)) (g (inS k s))):We N s (nodeP k f s) (nodeP k g s):=fun hb hp=>by
  rw[bad_node] at hb
  exact node_eq (h (by rw[hb,bad_in hk]) hp)
theorem se_nest {k:Nat} (hk:(k==17||k==18)=false) {f g:Ps→Ps} {s:Ps} (h:∀t:Ps,t.p=s.p→Se t (f t) (g t)):Se s (nestP k f s) (nestP k g s):=fun hb=>by
  have e:bad (nestP k f s).l=bad (nodeP k f {s with deep:=s.deep+1}).l:=rfl
  rw[e,bad_node] at hb
  exact nest_eq (h (inS k {s with deep:=s.deep+1}) rfl (by rw[hb,bad_in hk]))
structure Ext (F G:List Lf):Prop where
  lt:∀i,i<F.length→G[i]? = F[i]?
  sg:sg G F.length=110
  w:isW G F.length=false
  le:F.length<G.length
section
variable {F G:List Lf} (E:Ext F G)
include E
theorem ex_sg {i:Nat} (h:i<F.length):sg G i=sg F i:=by unfold sg;rw[E.lt i h]
omit E in
theorem sg_end {i:Nat} (h:F.length≤i):sg F i=0:=by unfold sg;rw[List.getElem?_eq_none h]
theorem ex_tx {i:Nat} (h:i<F.length):tx G i=tx F i:=by unfold tx;rw[E.lt i h]
theorem ex_isW {i:Nat} (h:i≤F.length):isW G i=isW F i:=by
  rcases Nat.lt_or_eq_of_le h with h|h
  ·unfold isW;rw[E.lt i h]
  ·rw[h,E.w];unfold isW;rw[List.getElem?_eq_none (Nat.le_refl _)]
theorem ex_beq {i:Nat} {c:UInt8} (h:i≤F.length) (h0:(c==0)=false) (h1:(c==110)=false):(sg G i==c)=(sg F i==c):=by
  rcases Nat.lt_or_eq_of_le h with h|h
  ·rw[ex_sg E h]
  ·rw[h,E.sg,sg_end (Nat.le_refl _),show ((110:UInt8)==c)=(c==110) from Bool.beq_comm ..,show ((0:UInt8)==c)=(c==0) from Bool.beq_comm ..,h0,h1]
variable {s:Ps}
theorem ex_comes_lt {cs:List UInt8} (hs:s.p<F.length):comes G cs s=comes F cs s:=by unfold comes;rw[ex_sg E hs]
theorem ex_comes {cs:List UInt8} (h0:cs.contains 0=false) (h1:cs.contains 110=false) (hs:s.p≤F.length):comes G cs s=comes F cs s:=by
  rcases Nat.lt_or_eq_of_le hs with h|h
  ·exact ex_comes_lt E h
  ·unfold comes;rw[h,E.sg,sg_end (Nat.le_refl _),h0,h1]
theorem ex_redirB (hs:s.p≤F.length):redirB G s=redirB F s:=by
  unfold redirB
  rw[ex_beq E hs (by decide) (by decide),ex_beq E hs (by decide) (by decide)]
  rcases Nat.lt_or_eq_of_le hs with h|h
  ·rw[ex_beq E (i:=s.p+1) h (by decide) (by decide)]
  ·rw[h,sg_end (Nat.le_refl _)];rfl
theorem ex_compB (hs:s.p≤F.length):compB G s=compB F s:=by unfold compB;rw[ex_comes E (by decide) (by decide) hs]
theorem ex_cmdB (hs:s.p≤F.length):cmdB G s=cmdB F s:=by unfold cmdB;rw[ex_beq E hs (by decide) (by decide),ex_redirB E hs,ex_compB E hs]
theorem ex_pipeB (hs:s.p≤F.length):pipeB G s=pipeB F s:=by unfold pipeB;rw[ex_beq E hs (by decide) (by decide),ex_cmdB E hs]
theorem ex_funB (hs:s.p≤F.length):funB G s=funB F s:=by
  unfold funB
  rw[ex_beq E hs (by decide) (by decide)]
  rcases Nat.lt_or_eq_of_le hs with h|h
  ·rw[ex_beq E (i:=s.p+1) h (by decide) (by decide),ex_tx E h]
  ·rw[h,sg_end (Nat.le_refl _)];rfl
theorem ex_itemB (hs:s.p≤F.length):itemB G s=itemB F s:=by
  unfold itemB
  rw[ex_beq E hs (by decide) (by decide),ex_isW E hs,bne,ex_beq E hs (by decide) (by decide)]
  rfl
theorem ex_take {cs:List UInt8} (h0:cs.contains 0=false) (h1:cs.contains 110=false) (hs:s.p≤F.length):takeP G cs s=takeP F cs s:=by unfold takeP;rw[ex_comes E h0 h1 hs]
theorem ex_word (hs:s.p≤F.length):wordP G s=wordP F s:=by unfold wordP;rw[ex_isW E hs]
theorem ex_want {c:UInt8} (h0:[c].contains 0=false) (h1:[c].contains 110=false) (hs:s.p≤F.length):wantP G c s=wantP F c s:=by unfold wantP;rw[ex_comes E h0 h1 hs]
omit E in
theorem nd_want {c:UInt8} (h0:[c].contains 0=false):bad (wantP F c s).l=bad s.l→s.p<F.length:=fun hb=>by
  unfold wantP at hb
  by_cases hc:comes F [c] s=true
  ·exact comes_lt hc h0
  ·rw[if_neg hc,bad_miss] at hb;omega
theorem ex_redir (hs:s.p≤F.length):redirP G s=redirP F s:=by
  refine node_eq ?_
  have h0:(inS 8 s).p≤F.length:=hs
  have h1:=(gd_take (F:=F) (cs:=[35]) (by decide) h0).N
  have h2:=(gd_take (F:=F) (cs:=[60]) (by decide) h1).N
  rw[ex_take E (by decide) (by decide) h0,ex_take E (by decide) (by decide) h1,ex_word E h2]
omit E in
theorem loop_se {N M B B':Nat} {c d:Ps→Ps×Bool} (hN:N≤M) (hc:∀s:Ps,s.p≤N→LC N B s (c s)) (hd:∀s:Ps,s.p≤M→LC M B' s (d s)) (he:∀s:Ps,s.p≤N→bad (c s).1.l=bad s.l→d s=c s) :
    ∀m (s:Ps),N-s.p=m→s.p≤N→Se s (loopP N c s) (loopP M d s):=by
  intro m
  induction m using Nat.strongRecOn with
  | _ m ih=>
    intro s hm hs hb
    have e1:=LC.eq hc s hs
    have e2:=LC.eq hd s (by omega)
    by_cases h:(c s).2=true
    ·have h1:=(hc s hs).1 h
     have h2:=h1.1.N
     rw[if_pos h] at e1
     rw[e1] at hb
     obtain⟨b1,b2⟩:=cs_split h1.1 (Gd.loop hc _ _ rfl h2) hb
     rw[he s hs b1,if_pos h] at e2
     rw[e1,e2]
     exact ih _ (by omega) _ rfl h2 b2
    ·rw[if_neg h] at e1
     rw[e1] at hb
     rw[he s hs hb,if_neg h] at e2
     rw[e1,e2]
omit E in
theorem loop_we {N M B B':Nat} {c d:Ps→Ps×Bool} (hN:N≤M) (hc:∀s:Ps,s.p≤N→LC N B s (c s)) (hd:∀s:Ps,s.p≤M→LC M B' s (d s)) (he:∀s:Ps,s.p≤N→bad (c s).1.l=bad s.l→(c s).1.p<N→d s=c s) :
    ∀m (s:Ps),N-s.p=m→s.p≤N→We N s (loopP N c s) (loopP M d s):=by
  intro m
  induction m using Nat.strongRecOn with
  | _ m ih=>
    intro s hm hs hb hp
    have e1:=LC.eq hc s hs
    have e2:=LC.eq hd s (by omega)
    by_cases h:(c s).2=true
    ·have h1:=(hc s hs).1 h
     have h2:=h1.1.N
     rw[if_pos h] at e1
     rw[e1] at hb hp
     have h3:=Gd.loop hc _ _ rfl h2
     obtain⟨b1,b2⟩:=cs_split h1.1 h3 hb
     rw[he s hs b1 (Nat.lt_of_le_of_lt h3.p hp),if_pos h] at e2
     rw[e1,e2]
     exact ih _ (by omega) _ rfl h2 b2 hp
    ·rw[if_neg h] at e1
     rw[e1] at hb hp
     rw[he s hs hb hp,if_neg h] at e2
     rw[e1,e2]
theorem w_lines (hs:s.p≤F.length):We F.length s (linesP F s) (linesP G s):=loop_we (Nat.le_of_lt E.le) lines_c lines_c (fun s hs hb hp=>by
  rcases Nat.lt_or_eq_of_le hs with h|h
  ·rw[ex_comes_lt E h]
  ·have h0:comes F [110] s=false:=by unfold comes;rw[h,sg_end (Nat.le_refl _)];rfl
   rw[h0] at hp
   have:s.p<F.length:=hp
   omega) _ s rfl hs
theorem se_redirs (hs:s.p≤F.length):Se s (redirsP F s) (redirsP G s):=loop_se (Nat.le_of_lt E.le) redirs_c redirs_c (fun s hs _=>by rw[ex_redirB E hs,ex_redir E hs]) _ s rfl hs
theorem se_simp1 (hs:s.p≤F.length):Se s (simp1P F s) (simp1P G s):=loop_se (Nat.le_of_lt E.le) simp1_c simp1_c (fun s hs _=>by rw[ex_redirB E hs,ex_redir E hs,ex_isW E hs]) _ s rfl hs
theorem se_words (hs:s.p≤F.length):Se s (wordsP F s) (wordsP G s):=loop_se (Nat.le_of_lt E.le) words_c words_c (fun s hs _=>by rw[ex_isW E hs]) _ s rfl hs
theorem se_simp (hs:s.p≤F.length):Se s (simpP F s) (simpP G s):=by
  have h1:Se s _ _:=loop_se (Nat.le_of_lt E.le) (simp0_c (F:=F)) (simp0_c (F:=G)) (fun s hs _=>by
    rw[ex_redirB E hs,ex_redir E hs,ex_isW E hs]
    rcases Nat.lt_or_eq_of_le hs with h|h
    ·rw[ex_tx E h]
    ·rw[show isW F s.p=false by unfold isW;rw[List.getElem?_eq_none (by omega)]];rfl) _ s rfl hs
  have h2:=Gd.loop (simp0_c (F:=F)) _ s rfl hs
  refine Se.comp (b:=0) (fun s1=>if isW F s1.p=true then simp1P F (leafP 7 s1) else s1) (fun s1=>if isW G s1.p=true then simp1P G (leafP 7 s1) else s1) h2 (Gd.ite (fun hc=>?_) (fun _=>Gd.refl h2.N)) h1 ?_
  ·have h3:=(gd_leaf (F:=F) (k:=7) (isW_lt hc)).2.2
   simpa using h3.trans (gd_simp1 h3.N)
  ·intro hb
   try dsimp only at hb ⊢
   rw[ex_isW E h2.N]
   by_cases hc:isW F (loopP F.length (fun s=>if redirB F s=true then (redirP F s,true) else if (isW F s.p&&asgT (tx F s.p))=true then (leafP 6 s,true) else (s,false)) s).p=true
   ·rw[if_pos hc] at hb ⊢
    rw[if_pos hc]
    have h3:=(gd_leaf (F:=F) (k:=7) (isW_lt hc)).2.2
    exact se_simp1 E h3.N (cs_split h3 (gd_simp1 h3.N) hb).2
   ·rw[if_neg hc,if_neg hc]
variable {L M:Ps→Ps} (hL:GL F L) (hM:GL G M) (hw:∀s:Ps,s.p≤F.length→We F.length s (L s) (M s))
include hL hw
omit E hL in
theorem w_nodeL (hs:s.p≤F.length):We F.length s (nodeP 2 L s) (nodeP 2 M s):=we_node (by decide) (hw (inS 2 s) hs)
theorem w_body (hs:s.p≤F.length):We F.length s (bodyP F L s) (bodyP G M s):=fun hb hp=>by
  have h1:=gd_lines hs
  unfold bodyP at hb hp ⊢
  by_cases hc:pipeB F (linesP F s)=true
  ·rw[if_pos hc] at hb hp ⊢
   have h2:=Gd.node0 (k:=2) (s:=linesP F s) (f:=L) (A:=3) (N:=F.length) fun t ht _=>hL t (by have:=h1.N;omega)
   obtain⟨b1,b2⟩:=cs_split h1 h2 hb
   rw[w_lines E hs b1 (pipe_lt hc),ex_pipeB E h1.N,if_pos hc]
   exact w_nodeL hw h1.N b2 hp
  ·rw[if_neg hc,bad_miss] at hb
   have:=bad_le h1
   omega
theorem se_do (hs:s.p≤F.length):Se s (doP F L s) (doP G M s):=by
  have g1:=gd_want (F:=F) (c:=100) (by decide) hs
  have g2:=gd_body hL g1.N
  have h1:We F.length s (wantP F 100 s) (wantP G 100 s):=fun _ _=>ex_want E (by decide) (by decide) hs
  exact We.need (wantP F 103) (wantP G 103) (g1.trans g2) (gd_want (F:=F) (c:=103) (by decide) g2.N) (We.comp (bodyP F L) (bodyP G M) g1 g2 h1 (w_body E hL hw g1.N)) (nd_want (by decide)) (fun _=>ex_want E (by decide) (by decide) g2.N)
omit E hw in
theorem nd_do (hs:s.p≤F.length):bad (doP F L s).l=bad s.l→s.p<F.length:=fun hb=>by
  have g1:=gd_want (F:=F) (c:=100) (by decide) hs
  have g2:=gd_body hL g1.N
  exact nd_want (by decide) (cs_split g1 (g2.trans (gd_want (F:=F) (c:=103) (by decide) g2.N)) hb).1
theorem w_bwb (hs:s.p≤F.length):We F.length s (bodyP F L (wantP F 116 (bodyP F L s))) (bodyP G M (wantP G 116 (bodyP G M s)))∧∃b,Gd F.length b s (bodyP F L (wantP F 116 (bodyP F L s))):=by
  have g1:=gd_body hL hs
  have g2:=gd_want (F:=F) (c:=116) (by decide) g1.N
  have g3:=gd_body hL g2.N
  exact⟨We.comp (bodyP F L) (bodyP G M) (g1.trans g2) g3 (We.need (wantP F 116) (wantP G 116) g1 g2 (w_body E hL hw hs) (nd_want (by decide)) (fun _=>ex_want E (by decide) (by decide) g1.N)).we (w_body E hL hw g2.N),_,(g1.trans g2).trans g3⟩
include hM in
theorem se_bran (hs:s.p≤F.length):Se s (branP F L s) (branP G M s):=by
  obtain⟨w3,b3,g3⟩:=w_bwb E hL hw hs
  have g4:=Gd.loop (branch_c hL) _ _ rfl g3.N
  have w4:We F.length _ _ _:=loop_we (Nat.le_of_lt E.le) (branch_c hL) (branch_c hM) (fun s hs hb hp=>by
    rw[ex_comes E (by decide) (by decide) hs]
    by_cases hc:comes F [101] s=true
    ·rw[if_pos hc] at hb hp
     rw[if_pos hc,if_pos hc,(w_bwb E hL hw (s:=nextP s) (comes_lt hc (by decide))).1 hb hp]
    ·rw[if_neg hc,if_neg hc]) _ _ rfl g3.N
  have w5:=We.comp (loopP F.length (fun s=>if comes F [101] s=true then (bodyP F L (wantP F 116 (bodyP F L (nextP s))),true) else (s,false))) (loopP G.length (fun s=>if comes G [101] s=true then (bodyP G M (wantP G 116 (bodyP G M (nextP s))),true) else (s,false))) g3 g4 w3 w4
  have g5:=g3.trans g4
  unfold branP
  dsimp only
  generalize loopP F.length (fun s=>if comes F [101] s=true then (bodyP F L (wantP F 116 (bodyP F L (nextP s))),true) else (s,false)) (bodyP F L (wantP F 116 (bodyP F L s)))=u at w5 g5
  have g6:Gd F.length 4 u (if comes F [108] u=true then bodyP F L (nextP u) else u):=Gd.ite (fun hc=>by
    have h0:=comes_lt hc (by decide)
    exact(Gd.paid h0 (gd_body hL (Gd.next h0).1.N) (by omega)).1.mono (by omega)) (fun _=>(Gd.refl g5.N).mono (by omega))
  have w6:We F.length u (if comes F [108] u=true then bodyP F L (nextP u) else u) (if comes G [108] u=true then bodyP G M (nextP u) else u):=fun hb hp=>by
    rw[ex_comes E (by decide) (by decide) g5.N]
    by_cases hc:comes F [108] u=true
    ·rw[if_pos hc] at hb hp
     rw[if_pos hc,if_pos hc]
     exact w_body E hL hw (s:=nextP u) (comes_lt hc (by decide)) hb hp
    ·rw[if_neg hc,if_neg hc]
  exact We.need (wantP F 102) (wantP G 102) (g5.trans g6) (gd_want (F:=F) (c:=102) (by decide) g6.N) (We.comp (fun u=>if comes F [108] u=true then bodyP F L (nextP u) else u) (fun u=>if comes G [108] u=true then bodyP G M (nextP u) else u) g5 g6 w5 w6) (nd_want (by decide)) (fun _=>ex_want E (by decide) (by decide) g6.N)
omit hL hw in
theorem w_in (hs:s.p<F.length):We F.length s (inP F s) (inP G s):=by
  have g0:=(Gd.next (N:=F.length) hs).1
  have g1:=gd_words (F:=F) g0.N
  have w1:We F.length s (wordsP F (nextP s)) (wordsP G (nextP s)):=(Se.comp (wordsP F) (wordsP G) g0 g1 (fun _=>rfl) (se_words E g0.N)).we
  have g2:=g0.trans g1
  unfold inP
  dsimp only
  generalize wordsP F (nextP s)=u at w1 g2
  have g6:Gd F.length 1 u (if comes F [59] u=true then linesP F (nextP u) else if comes F [110] u=true then linesP F u else missP u):=Gd.ite (fun hc=>by
    have h2:=(Gd.next (comes_lt hc (by decide))).1
    exact(h2.trans (gd_lines h2.N)).mono (by omega)) (fun _=>Gd.ite (fun _=>(gd_lines g2.N).mono (by omega)) (fun _=>gd_miss g2.N))
  refine We.comp (fun u=>if comes F [59] u=true then linesP F (nextP u) else if comes F [110] u=true then linesP F u else missP u) (fun u=>if comes G [59] u=true then linesP G (nextP u) else if comes G [110] u=true then linesP G u else missP u) g2 g6 w1 (fun hb hp=>?_)
  try dsimp only
  rw[ex_comes E (cs:=[59]) (by decide) (by decide) g2.N]
  by_cases hc:comes F [59] u=true
  ·rw[if_pos hc] at hb hp
   rw[if_pos hc,if_pos hc]
   exact w_lines E (s:=nextP u) (comes_lt hc (by decide)) hb hp
  ·rw[if_neg hc] at hb hp
   rw[if_neg hc,if_neg hc]
   by_cases h1:comes F [110] u=true
   ·rw[if_pos h1] at hb hp
    rw[ex_comes_lt E (comes_lt h1 (by decide)),if_pos h1,if_pos h1]
    exact w_lines E g2.N hb hp
   ·rw[if_neg h1,bad_miss] at hb
    omega
theorem se_each (hs:s.p≤F.length):Se s (eachP F L s) (eachP G M s):=by
  have g1:Gd F.length 1 s (if (isW F s.p&&nameT (tx F s.p))=true then leafP 7 s else missP s):=Gd.ite (fun hc=>(gd_leaf (isW_lt ((Bool.and_eq_true _ _).mp hc).1)).1) (fun _=>gd_miss hs)
  have e1:(if (isW G s.p&&nameT (tx G s.p))=true then leafP 7 s else missP s)=(if (isW F s.p&&nameT (tx F s.p))=true then leafP 7 s else missP s):=by
    rw[ex_isW E hs]
    rcases Nat.lt_or_eq_of_le hs with h|h
    ·rw[ex_tx E h]
    ·rw[show isW F s.p=false by unfold isW;rw[List.getElem?_eq_none (by omega)]];rfl
  unfold eachP
  rw[e1]
  generalize (if (isW F s.p&&nameT (tx F s.p))=true then leafP 7 s else missP s)=u at g1
  have g3:=gd_lines g1.N
  have g2:Gd F.length 1 u (if comes F [59] u=true then linesP F (nextP u) else if comes F [107] (linesP F u)=true then inP F (linesP F u) else linesP F u):=Gd.ite (fun hc=>by
    have h2:=(Gd.next (comes_lt hc (by decide))).1
    exact(h2.trans (gd_lines h2.N)).mono (by omega)) (fun _=>Gd.ite (fun hc=>by simpa using g3.trans (gd_in (comes_lt hc (by decide)))) (fun _=>g3.mono (by omega)))
  have w2:We F.length u (if comes F [59] u=true then linesP F (nextP u) else if comes F [107] (linesP F u)=true then inP F (linesP F u) else linesP F u) (if comes G [59] u=true then linesP G (nextP u) else if comes G [107] (linesP G u)=true then inP G (linesP G u) else linesP G u):=fun hb hp=>by
    rw[ex_comes E (cs:=[59]) (by decide) (by decide) g1.N]
    by_cases hc:comes F [59] u=true
    ·rw[if_pos hc] at hb hp
     rw[if_pos hc,if_pos hc]
     exact w_lines E (s:=nextP u) (comes_lt hc (by decide)) hb hp
    ·rw[if_neg hc] at hb hp
     rw[if_neg hc,if_neg hc]
     by_cases h1:comes F [107] (linesP F u)=true
     ·rw[if_pos h1] at hb hp
      have h2:=comes_lt h1 (by decide)
      obtain⟨b1,b2⟩:=cs_split g3 (gd_in h2) hb
      rw[w_lines E g1.N b1 h2,ex_comes E (by decide) (by decide) g3.N,if_pos h1,if_pos h1]
      exact w_in E h2 b2 hp
     ·rw[if_neg h1] at hb hp
      rw[w_lines E g1.N hb hp,ex_comes E (by decide) (by decide) g3.N,if_neg h1,if_neg h1]
  exact Se.comp (N:=F.length) (a:=1) (b:=7) (fun u=>doP F L (if comes F [59] u=true then linesP F (nextP u) else if comes F [107] (linesP F u)=true then inP F (linesP F u) else linesP F u)) (fun u=>doP G M (if comes G [59] u=true then linesP G (nextP u) else if comes G [107] (linesP G u)=true then inP G (linesP G u) else linesP G u)) g1 (g2.trans (gd_do hL g2.N)) (fun _=>rfl)
    (We.need (doP F L) (doP G M) g2 (gd_do hL g2.N) w2 (nd_do hL g2.N) (se_do E hL hw g2.N))
theorem w_item (hs:s.p≤F.length):We F.length s (itemP F L s) (itemP G M s):=by
  have g1:=gd_take (F:=F) (cs:=[40]) (by decide) hs
  have g2:=gd_word (F:=F) g1.N
  have g12:=g1.trans g2
  have g3:=Gd.loop item_c _ _ rfl g2.N
  have e2:wordP G (takeP G [40] s)=wordP F (takeP F [40] s):=by rw[ex_take E (by decide) (by decide) hs,ex_word E g1.N]
  unfold itemP
  rw[e2]
  generalize wordP F (takeP F [40] s)=u at g12 g3
  have s3:Se u (loopP F.length (fun s=>if comes F [124] s=true then (wordP F (nextP s),true) else (s,false)) u) (loopP G.length (fun s=>if comes G [124] s=true then (wordP G (nextP s),true) else (s,false)) u):=loop_se (Nat.le_of_lt E.le) item_c item_c (fun s hs hb=>by
    rw[ex_comes E (by decide) (by decide) hs]
    by_cases hc:comes F [124] s=true
    ·rw[if_pos hc,if_pos hc,ex_word E (s:=nextP s) (comes_lt hc (by decide))]
    ·rw[if_neg hc,if_neg hc]) _ _ rfl g12.N
  have g4:=gd_want (F:=F) (c:=41) (by decide) g3.N
  have g5:=gd_lines g4.N
  have w5:=We.comp (linesP F) (linesP G) (g3.trans g4) g5 (Se.comp (wantP F 41) (wantP G 41) g3 g4 s3 (fun _=>ex_want E (by decide) (by decide) g3.N)).we (w_lines E g4.N)
  have g6:=(g3.trans g4).trans g5
  dsimp only
  generalize linesP F (wantP F 41 (loopP F.length (fun s=>if comes F [124] s=true then (wordP F (nextP s),true) else (s,false)) u))=v at w5 g6
  have g7:Gd F.length 4 v (if pipeB F v=true then nodeP 2 L v else v):=Gd.ite (fun _=>Gd.node0 (A:=3) fun t ht _=>hL t (by have:=g6.N;omega)) (fun _=>(Gd.refl g6.N).mono (by omega))
  have w7:We F.length v (if pipeB F v=true then nodeP 2 L v else v) (if pipeB G v=true then nodeP 2 M v else v):=fun hb hp=>by
    rw[ex_pipeB E g6.N]
    by_cases hc:pipeB F v=true
    ·rw[if_pos hc] at hb hp
     rw[if_pos hc,if_pos hc]
     exact w_nodeL hw g6.N hb hp
    ·rw[if_neg hc,if_neg hc]
  have w8:=We.comp (fun v=>if pipeB F v=true then nodeP 2 L v else v) (fun v=>if pipeB G v=true then nodeP 2 M v else v) g6 g7 w5 w7
  exact fun hb hp=>w8 (by have:=bad_le g12;have:=bad_le (g6.trans g7);omega) hp
include hM in
theorem se_cases (hs:s.p≤F.length):Se s (casesP F L s) (casesP G M s):=by
  have g1:=gd_word (F:=F) hs
  have g2:=gd_lines g1.N
  have g3:=gd_want (F:=F) (c:=107) (by decide) g2.N
  have g4:=gd_lines g3.N
  have g5:=Gd.loop (cases_c hL) _ _ rfl g4.N
  have w2:=We.comp (linesP F) (linesP G) g1 g2 (fun _ _=>ex_word E hs) (w_lines E g1.N)
  have s3:=We.need (wantP F 107) (wantP G 107) (g1.trans g2) g3 w2 (nd_want (by decide)) (fun _=>ex_want E (by decide) (by decide) g2.N)
  have w4:=We.comp (linesP F) (linesP G) ((g1.trans g2).trans g3) g4 s3.we (w_lines E g3.N)
  have w5:We F.length _ _ _:=loop_we (Nat.le_of_lt E.le) (cases_c hL) (cases_c hM) (fun s hs hb hp=>by
    rw[ex_itemB E hs]
    by_cases hc:itemB F s=true
    ·rw[if_pos hc] at hb hp
     rw[if_pos hc,if_pos hc]
     have gi:=(item_go hL hc).1
     have key:bad (nodeP 15 (itemP F L) s).l=bad s.l→(nodeP 15 (itemP F L) s).p<F.length→nodeP 15 (itemP G M) s=nodeP 15 (itemP F L) s:=we_node (by decide) (w_item E hL hw (s:=inS 15 s) hs)
     by_cases hy:comes F [121] (nodeP 15 (itemP F L) s)=true
     ·rw[if_pos hy] at hb hp
      have h0:=comes_lt hy (by decide)
      have gn:=(Gd.next h0).1
      obtain⟨b1,b2⟩:=cs_split gi (gn.trans (gd_lines gn.N)) hb
      rw[key b1 h0,ex_comes E (by decide) (by decide) gi.N,if_pos hy,if_pos hy,w_lines E gn.N b2 hp]
     ·rw[if_neg hy] at hb hp
      rw[key hb hp,ex_comes E (by decide) (by decide) gi.N,if_neg hy,if_neg hy]
    ·rw[if_neg hc,if_neg hc]) _ _ rfl g4.N
  have g14:=((g1.trans g2).trans g3).trans g4
  exact We.need (wantP F 122) (wantP G 122) (g14.trans g5) (gd_want (F:=F) (c:=122) (by decide) g5.N) (We.comp (loopP F.length (fun s=>if itemB F s=true then (if comes F [121] (nodeP 15 (itemP F L) s)=true then (linesP F (nextP (nodeP 15 (itemP F L) s)),true) else (nodeP 15 (itemP F L) s,false)) else (s,false))) (loopP G.length (fun s=>if itemB G s=true then (if comes G [121] (nodeP 15 (itemP G M) s)=true then (linesP G (nextP (nodeP 15 (itemP G M) s)),true) else (nodeP 15 (itemP G M) s,false)) else (s,false))) g14 g5 w4 w5) (nd_want (by decide)) (fun _=>ex_want E (by decide) (by decide) g5.N)
include hM in
theorem se_ins (c:UInt8) (hs:s.p≤F.length):Se s (insP F L c s) (insP G M c s):=by
  have gb:=gd_body hL hs
  have wb:=w_body E hL hw hs
  unfold insP
  by_cases h1:c=40
  ·rw[if_pos h1,if_pos h1]
   exact We.need (wantP F 41) (wantP G 41) gb (gd_want (F:=F) (c:=41) (by decide) gb.N) wb (nd_want (by decide)) (fun _=>ex_want E (by decide) (by decide) gb.N)
  rw[if_neg h1,if_neg h1]
  by_cases h2:c=105
  ·rw[if_pos h2,if_pos h2]
   exact se_bran E hL hM hw hs
  rw[if_neg h2,if_neg h2]
  by_cases h3:c=119
  ·rw[if_pos h3,if_pos h3]
   exact We.need (doP F L) (doP G M) gb (gd_do hL gb.N) wb (nd_do hL gb.N) (se_do E hL hw gb.N)
  rw[if_neg h3,if_neg h3]
  by_cases h4:c=114
  ·rw[if_pos h4,if_pos h4]
   exact se_each E hL hw hs
  rw[if_neg h4,if_neg h4]
  by_cases h5:c=99
  ·rw[if_pos h5,if_pos h5]
   exact se_cases E hL hM hw hs
  rw[if_neg h5,if_neg h5]
  exact We.need (wantP F 125) (wantP G 125) gb (gd_want (F:=F) (c:=125) (by decide) gb.N) wb (nd_want (by decide)) (fun _=>ex_want E (by decide) (by decide) gb.N)
omit E hL hw in
theorem cknd_bad (c:UInt8):(cknd c==17||cknd c==18)=false:=by
  have:=cknd_ok c
  rw[beq_false_of_ne (by omega),beq_false_of_ne (by omega)]
  rfl
include hM in
theorem se_comp (hs:s.p<F.length):Se s (compP F L s) (compP G M s):=by
  unfold compP
  rw[ex_sg E hs]
  refine se_nest (cknd_bad _) fun t ht=>?_
  have h0:t.p<F.length:=by omega
  have gn:=(Gd.next h0).1
  have gi:=gd_ins hL (sg F s.p) gn.N
  exact Se.comp (fun u=>redirsP F (insP F L (sg F s.p) u)) (fun u=>redirsP G (insP G M (sg F s.p) u)) gn (gi.trans (gd_redirs gi.N)) (fun _=>rfl) (Se.comp (redirsP F) (redirsP G) gi (gd_redirs gi.N) (se_ins E hL hM hw _ gn.N) (se_redirs E gi.N))
include hM in
theorem se_def (hs:s.p≤F.length):Se s (defP F L s) (defP G M s):=by
  have g1:=gd_word (F:=F) hs
  have g2:=gd_take (F:=F) (cs:=[40]) (by decide) g1.N
  have g3:=gd_want (F:=F) (c:=41) (by decide) g2.N
  have g4:=gd_lines g3.N
  have g123:=(g1.trans g2).trans g3
  have e3:wantP G 41 (takeP G [40] (wordP G s))=wantP F 41 (takeP F [40] (wordP F s)):=by rw[ex_word E hs,ex_take E (by decide) (by decide) g1.N,ex_want E (by decide) (by decide) g2.N]
  unfold defP
  rw[e3]
  generalize wantP F 41 (takeP F [40] (wordP F s))=u at g123 g4
  dsimp only
  intro hb
  by_cases hc:compB F (linesP F u)=true
  ·rw[if_pos hc] at hb ⊢
   have gc:=(gd_comp hL (comp_lt hc)).1
   obtain⟨b1,b2⟩:=cs_split (g123.trans g4) gc hb
   have b3:=(cs_split g123 g4 b1).2
   rw[w_lines E g123.N b3 (comp_lt hc),ex_compB E g4.N,if_pos hc]
   exact se_comp E hL hM hw (comp_lt hc) b2
  ·rw[if_neg hc,bad_miss] at hb
   have:=bad_le (g123.trans g4)
   omega
include hM in
theorem se_com (hs:s.p≤F.length):Se s (comP F L s) (comP G M s):=fun hb=>by
  unfold comP at hb ⊢
  rw[ex_compB E hs,ex_funB E hs,ex_cmdB E hs]
  by_cases hc:compB F s=true
  ·rw[if_pos hc] at hb
   rw[if_pos hc,if_pos hc]
   exact se_comp E hL hM hw (comp_lt hc) hb
  rw[if_neg hc] at hb
  rw[if_neg hc,if_neg hc]
  by_cases hf:funB F s=true
  ·rw[if_pos hf] at hb
   rw[if_pos hf,if_pos hf]
   exact se_nest (by decide) (fun t ht=>se_def E hL hM hw (by omega)) hb
  rw[if_neg hf] at hb
  rw[if_neg hf,if_neg hf]
  by_cases hd:cmdB F s=true
  ·rw[if_pos hd] at hb
   rw[if_pos hd,if_pos hd]
   exact se_node (by decide) (se_simp E (s:=inS 5 s) hs) hb
  ·rw[if_neg hd,if_neg hd]
omit E hL hw in
theorem cmd_lt (h:cmdB F s=true):s.p<F.length:=pipe_lt (by unfold pipeB;rw[h,Bool.or_true])
omit E hL hw in
theorem fun_cmd (h:funB F s=true):cmdB F s=true:=by
  unfold funB at h
  unfold cmdB
  simp only[Bool.and_eq_true] at h
  rw[h.1,Bool.true_or]
omit E hL hw in
theorem nd_com:bad (comP F L s).l=bad s.l→s.p<F.length:=fun hb=>by
  unfold comP at hb
  by_cases hc:compB F s=true
  ·exact comp_lt hc
  rw[if_neg hc] at hb
  by_cases hf:funB F s=true
  ·exact cmd_lt (fun_cmd hf)
  rw[if_neg hf] at hb
  by_cases hd:cmdB F s=true
  ·exact cmd_lt hd
  ·rw[if_neg hd,bad_miss] at hb;omega
include hM in
theorem se_pipIn (hs:s.p≤F.length):Se s (pipInP F L s) (pipInP G M s):=by
  have g1:=gd_take (F:=F) (cs:=[33]) (by decide) hs
  have g2:=gd_com hL g1.N
  have s2:=Se.comp (comP F L) (comP G M) g1 g2 (fun _=>ex_take E (by decide) (by decide) hs) (se_com E hL hM hw g1.N)
  have g3:=Gd.loop (pipIn_c hL) _ _ rfl g2.N
  exact Se.comp (loopP F.length (fun s=>if comes F [124] s=true then (comP F L (linesP F (nextP s)),true) else (s,false))) (loopP G.length (fun s=>if comes G [124] s=true then (comP G M (linesP G (nextP s)),true) else (s,false))) (g1.trans g2) g3 s2 (loop_se (Nat.le_of_lt E.le) (pipIn_c hL) (pipIn_c hM) (fun s hs hb=>by
    rw[ex_comes E (by decide) (by decide) hs]
    by_cases hc:comes F [124] s=true
    ·rw[if_pos hc] at hb
     rw[if_pos hc,if_pos hc]
     have gn:=(Gd.next (comes_lt hc (by decide))).1
     have gl:=gd_lines gn.N
     rw[We.need (comP F L) (comP G M) gl (gd_com hL gl.N) (w_lines E gn.N) nd_com (se_com E hL hM hw gl.N) hb]
    ·rw[if_neg hc,if_neg hc]) _ _ rfl g2.N)
include hM in
theorem se_pip (hs:s.p≤F.length):Se s (pipP F L s) (pipP G M s):=fun hb=>by
  unfold pipP at hb ⊢
  rw[ex_pipeB E hs]
  by_cases hc:pipeB F s=true
  ·rw[if_pos hc] at hb
   rw[if_pos hc,if_pos hc]
   exact se_node (by decide) (se_pipIn E hL hM hw (s:=inS 4 s) hs) hb
  ·rw[if_neg hc,if_neg hc]
omit E hL hw in
theorem nd_pip:bad (pipP F L s).l=bad s.l→s.p<F.length:=fun hb=>by
  unfold pipP at hb
  by_cases hc:pipeB F s=true
  ·exact pipe_lt hc
  ·rw[if_neg hc,bad_miss] at hb;omega
include hM in
theorem se_and (hs:s.p≤F.length):Se s (andP F L s) (andP G M s):=by
  have g1:=gd_pip hL hs
  exact Se.comp (loopP F.length (fun s=>if comes F [97,111] s=true then (pipP F L (linesP F (nextP s)),true) else (s,false))) (loopP G.length (fun s=>if comes G [97,111] s=true then (pipP G M (linesP G (nextP s)),true) else (s,false))) g1 (Gd.loop (and_c hL) _ _ rfl g1.N) (se_pip E hL hM hw hs) (loop_se (Nat.le_of_lt E.le) (and_c hL) (and_c hM) (fun s hs hb=>by
    rw[ex_comes E (by decide) (by decide) hs]
    by_cases hc:comes F [97,111] s=true
    ·rw[if_pos hc] at hb
     rw[if_pos hc,if_pos hc]
     have gn:=(Gd.next (comes_lt hc (by decide))).1
     have gl:=gd_lines gn.N
     rw[We.need (pipP F L) (pipP G M) gl (gd_pip hL gl.N) (w_lines E gn.N) nd_pip (se_pip E hL hM hw gl.N) hb]
    ·rw[if_neg hc,if_neg hc]) _ _ rfl g1.N)
include hM in
theorem se_andN (hs:s.p≤F.length):Se s (nodeP 3 (andP F L) s) (nodeP 3 (andP G M) s):=se_node (by decide) (se_and E hL hM hw (s:=inS 3 s) hs)
include hM in
theorem w_lst (hs:s.p≤F.length):We F.length s (lstP F L s) (lstP G M s):=loop_we (Nat.le_of_lt E.le) (lst_c hL) (lst_c hM) (fun s hs hb hp=>by
  have g1:=Gd.node0 (k:=3) (s:=s) (f:=andP F L) (A:=2) (N:=F.length) fun t ht _=>gd_and hL (by omega)
  have s1:=se_andN E hL hM hw hs
  unfold sepP at hb hp ⊢
  by_cases h1:comes F [59,38] (nodeP 3 (andP F L) s)=true
  ·rw[if_pos h1] at hb hp
   have gn:=(Gd.next (comes_lt h1 (by decide))).1
   have gl:=gd_lines gn.N
   obtain⟨b1,b2⟩:=cs_split g1 (gn.trans gl) hb
   rw[s1 b1,ex_comes E (by decide) (by decide) g1.N,if_pos h1,if_pos h1,w_lines E gn.N b2 hp,ex_pipeB E gl.N]
  rw[if_neg h1] at hb hp
  by_cases h2:comes F [110] (nodeP 3 (andP F L) s)=true
  ·rw[if_pos h2] at hb hp
   have gl:=gd_lines g1.N
   obtain⟨b1,b2⟩:=cs_split g1 gl hb
   rw[s1 b1,ex_comes E (cs:=[59,38]) (by decide) (by decide) g1.N,if_neg h1,if_neg h1,ex_comes_lt E (comes_lt h2 (by decide)),if_pos h2,if_pos h2,w_lines E g1.N b2 hp,ex_pipeB E gl.N]
  ·rw[if_neg h2] at hb hp
   rw[s1 hb,ex_comes E (cs:=[59,38]) (by decide) (by decide) g1.N,if_neg h1,if_neg h1,ex_comes_lt E hp,if_neg h2,if_neg h2]) _ s rfl hs
end
theorem w_lstF {F G:List Lf} (E:Ext F G):∀n (s:Ps),s.p≤F.length→We F.length s (lstF F n s) (lstF G n s)
  | 0,s,hs=>fun _ _=>rfl
  | n+1,s,hs=>w_lst E (gd_lstF F n) (gd_lstF G n) (w_lstF E n) hs
end Go.Proofs.YtokmnkmpdnlnaaaGreatDoor
