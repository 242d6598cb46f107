/- Of Nt29: what a node made upon it hangs on, and that separators make no nodes. -/
import Derived.Test.YtfagdpfgifgnoaaGreatDoorPl13
import Derived.Test.YtfagdpfgifgnoaaGreatDoorTo29
import Derived.Test.YtfagdpfgifgnoaaGreatDoorIm24
set_option linter.unusedVariables false
set_option linter.unusedSimpArgs false
set_option maxRecDepth 100000
set_option maxHeartbeats 8000000
namespace Go.Proofs.YtfagdpfgifgnoaaGreatDoor
section
open Go.RowKit
theorem Fo.ups {b:Nat} {u:Int} {a c:Nat} {l:List Nd} (h:Fo b u a c l):∀x∈l,x.up=u∨((b:Int)≤x.up∧x.up<((b+l.length:Nat):Int)):=by
  induction h with
  | nil _=>intro x hx;cases hx
  | @cons b u a c k x y ks r e1 e2 e3 e4 e5 ih1 ih2=>
    intro q hq;have hl:(⟨k,x,y,u⟩::(ks++r):List Nd).length=1+ks.length+r.length:=by simp;omega
    rw[hl];rcases List.mem_cons.1 hq with rfl|hq
    ·exact .inl rfl
    ·rcases List.mem_append.1 hq with hq|hq
     ·rcases ih1 q hq with h|h
      ·exact .inr ⟨by omega,by omega⟩
      ·exact .inr ⟨by omega,by omega⟩
     ·rcases ih2 q hq with h|h
      ·exact .inl h
      ·exact .inr ⟨by omega,by omega⟩
section
variable {F:List Lf}
theorem uN:∀(m:Nat) (s:Ps),F.length-s.p=m→s.p≤F.length→(ac F s).l=s.l:=by
  intro m
  induction m using Nat.strongRecOn with
  | _ m ih=>
    intro s hm hs;unfold ac;rw[LC.eq fy s hs];by_cases hc:am F [110] s=true
    ·have h1:=au hc (by decide);simp only[hc,if_true];have h2:=ih (F.length-(ai s).p) (by have:(ai s).p=s.p+1:=rfl;omega) (ai s) rfl (by have:(ai s).p=s.p+1:=rfl;omega);unfold ac at h2;exact h2
    ·simp[hc]
theorem ES {s:Ps} (hs:s.p≤F.length):(cR F s).1.l=s.l:=by
  unfold cR;by_cases h1:am F [59,38] s=true
  ·rw[if_pos h1];have h2:=au h1 (by decide);exact uN _ _ rfl (show s.p+1≤_ by omega)
  ·rw[if_neg h1];by_cases h3:am F [110] s=true
   ·rw[if_pos h3];exact uN _ _ rfl hs
   ·rw[if_neg h3]
end
end
section
def kx (F:List Lf) (i:Nat):Option (Int×List UInt8):=(F[i]?).map fun x=>(x.kd,x.tx)
theorem Da {F G:List Lf} {i j:Nat} (h:kx F i=kx G j):sg F i=sg G j∧dW F i=dW G j∧tx F i=tx G j:=by
  unfold kx at h;unfold sg dW tx
  cases hF:F[i]? with
  | none=>
    cases hG:G[j]? with
    | none=>exact⟨rfl,rfl,rfl⟩
    | some y=>rw[hF,hG] at h;cases h
  | some x=>
    cases hG:G[j]? with
    | none=>rw[hF,hG] at h;cases h
    | some y=>
      rw[hF,hG] at h;simp only[Option.map_some,Option.some.injEq,Prod.mk.injEq] at h;refine⟨?_,by simp only[h.1],h.2⟩;simp only;unfold sV;rw[h.1,h.2]
def Gx (F G:List Lf) (k a B:Nat):Prop:=∀i,a≤i→i<B→kx F (i+k)=kx G i
def wA (b:Nat) (u v:Int):Int:=if v<0 then u else v+(b:Int)
def om (k b:Nat) (u:Int) (x:Nd):Nd:=⟨x.kd,x.fr+k,x.tt+k,wA b u x.up⟩
structure St (F G:List Lf) (k a b:Nat) (u:Int) (fuA fuB:Nat) (s t:Ps):Prop where
  p:s.p=t.p+k
  d:s.deep=t.deep
  u:s.up=wA b u t.up
  l:s.l.length=t.l.length+b
  pns:s.p≤F.length
  pnt:t.p≤G.length
  a:a≤t.p
  fs:F.length<s.p+fuA
  ft:G.length<t.p+fuB
structure wC (F G:List Lf) (k b:Nat) (u:Int) (s t s2 t2:Ps):Prop where
  p:s2.p=t2.p+k
  d:s2.deep=t2.deep
  ups:s2.up=s.up
  upt:t2.up=t.up
  pns:s2.p≤F.length
  pnt:t2.p≤G.length
  m:t.p≤t2.p
  l:∃m,t2.l=t.l++m∧s2.l=s.l++m.map (om k b u)
section
variable {F G:List Lf} {k a b B fuA fuB:Nat} {u:Int} {s t s1 t1 s2 t2:Ps}
theorem St.next2 (h:St F G k a b u fuA fuB s t) (hx:wC F G k b u s t s2 t2):St F G k a b u fuA fuB s2 t2:=by
  obtain⟨m,h1,h2⟩:=hx.l
  have:=hx.m
  refine⟨hx.p,hx.d,by rw[hx.ups,hx.upt];exact h.u,by rw[h1,h2];simp;have:=h.l;omega,hx.pns,hx.pnt,Nat.le_trans h.a this,?_,?_⟩
  ·have:=h.fs;have:=h.p;have:=hx.p;omega
  ·have:=h.ft;omega
theorem wC.refl (h:St F G k a b u fuA fuB s t):wC F G k b u s t s t:=⟨h.p,h.d,rfl,rfl,h.pns,h.pnt,Nat.le_refl _,[],by simp,by simp⟩
theorem wC.trans (h:wC F G k b u s t s1 t1) (h':wC F G k b u s1 t1 s2 t2):wC F G k b u s t s2 t2:=by
  obtain⟨m,h1,h2⟩:=h.l;obtain⟨m',h3,h4⟩:=h'.l;exact⟨h'.p,h'.d,h'.ups.trans h.ups,h'.upt.trans h.upt,h'.pns,h'.pnt,Nat.le_trans h.m h'.m,m++m',by rw[h3,h1,List.append_assoc],by rw[h4,h2,List.map_append,List.append_assoc]⟩
def T (F G:List Lf) (k b B:Nat) (u:Int) (s t s2 t2:Ps):Prop:=t2.p+2≤B→wC F G k b u s t s2 t2
def TC (F G:List Lf) (k b B:Nat) (u:Int) (s t:Ps) (r q:Ps×Bool):Prop:=q.1.p+2≤B→wC F G k b u s t r.1 q.1∧r.2=q.2
theorem T.refl (h:St F G k a b u fuA fuB s t):T F G k b B u s t s t:=fun _=>wC.refl h
theorem T.trans (h:T F G k b B u s t s1 t1) (hm:t1.p≤t2.p) (h':wC F G k b u s t s1 t1→T F G k b B u s1 t1 s2 t2):T F G k b B u s t s2 t2:=fun hB=>by
  have h1:=h (by omega);exact h1.trans (h' h1 hB)
theorem T.seq {A:Nat} (hs:St F G k a b u fuA fuB s t) (h:T F G k b B u s t s1 t1) (hg:Gd G.length A t1 t2) (h':St F G k a b u fuA fuB s1 t1→T F G k b B u s1 t1 s2 t2):T F G k b B u s t s2 t2:=
  T.trans h hg.p fun hx=>h' (hs.next2 hx)
theorem LC.upp {N A:Nat} {r:Ps×Bool} (h:LC N A s r):s.p≤r.1.p:=by
  cases hq:r.2
  ·exact(h.2 hq).p
  ·exact(h.1 hq).1.p
theorem T.ite {c d:Bool} {x x' y y':Ps} (hm:t.p≤(if d=true then y else y').p) (hb:t.p+2≤B→c=d) (h:d=true→T F G k b B u s t x y) (h':d=false→T F G k b B u s t x' y'):T F G k b B u s t (if c=true then x else x') (if d=true then y else y'):=fun hB=>by
  obtain rfl:=hb (by omega)
  cases c
  ·rw[if_neg (by decide)] at hB ⊢;rw[if_neg (by decide)];exact h' rfl hB
  ·rw[if_pos rfl] at hB ⊢;rw[if_pos rfl];exact h rfl hB
theorem TC.ite {c d:Bool} {x x' y y':Ps×Bool} (hm:t.p≤(if d=true then y else y').1.p) (hb:t.p+2≤B→c=d) (h:d=true→TC F G k b B u s t x y) (h':d=false→TC F G k b B u s t x' y'):TC F G k b B u s t (if c=true then x else x') (if d=true then y else y'):=fun hB=>by
  obtain rfl:=hb (by omega)
  cases c
  ·rw[if_neg (by decide)] at hB ⊢;rw[if_neg (by decide)];exact h' rfl hB
  ·rw[if_pos rfl] at hB ⊢;rw[if_pos rfl];exact h rfl hB
theorem TC.mk {x y:Ps} {c:Bool} (h:T F G k b B u s t x y):TC F G k b B u s t (x,c) (y,c):=fun hB=>⟨h hB,rfl⟩
theorem mT (h:St F G k a b u fuA fuB s t) (hs:s.p<F.length) (ht:t.p<G.length):wC F G k b u s t (ai s) (ai t):=
  ⟨by show s.p+1=t.p+1+k;rw[h.p];omega,h.d,rfl,rfl,hs,ht,Nat.le_succ _,[],by simp[ai],by simp[ai]⟩
theorem g9 {kd:Nat} {f g:Ps→Ps} (h:St F G k a b u fuA fuB s t) (hf:∀s' t',St F G k a b u fuA fuB s' t'→s'.p=s.p→t'.p=t.p→T F G k b B u s' t' (f s') (g t')):T F G k b B u s t (an kd f s) (an kd g t):=fun hB=>by
  have hS:St F G k a b u fuA fuB {s with l:=s.l++[⟨kd,s.p,0,s.up⟩],up:=(s.l.length:Int)} {t with l:=t.l++[⟨kd,t.p,0,t.up⟩],up:=(t.l.length:Int)}:=
    ⟨h.p,h.d,by show ((s.l.length:Nat):Int)=wA b u ((t.l.length:Nat):Int);unfold wA;rw[if_neg (by omega),h.l];omega,by simp;have:=h.l;omega,h.pns,h.pnt,h.a,h.fs,h.ft⟩
  have hx:=hf _ _ hS rfl rfl hB;obtain⟨m,h1,h2⟩:=hx.l;refine⟨hx.p,hx.d,rfl,rfl,hx.pns,hx.pnt,hx.m,⟨kd,t.p,(g {t with l:=t.l++[⟨kd,t.p,0,t.up⟩],up:=(t.l.length:Int)}).p,t.up⟩::m,?_,?_⟩
  ·show dh (g _).l t.l.length _=_;rw[h1];show dh ((t.l++[_])++m) t.l.length _=_;rw[List.append_assoc];exact iq t.l _ m _
  ·show dh (f _).l s.l.length _=_;rw[h2];show dh ((s.l++[_])++m.map (om k b u)) s.l.length _=_;rw[List.append_assoc];rw[show ([⟨kd,s.p,0,s.up⟩]:List Nd)++m.map (om k b u)=⟨kd,s.p,0,s.up⟩::m.map (om k b u) from rfl,iq];rw[List.map_cons];congr 2;unfold om;simp only;rw[hx.p,h.p,h.u]
theorem wP {kd:Nat} {f g:Ps→Ps} (h:St F G k a b u fuA fuB s t) (hf:∀s' t',St F G k a b u fuA fuB s' t'→s'.p=s.p→t'.p=t.p→T F G k b B u s' t' (f s') (g t')):T F G k b B u s t (gL kd f s) (gL kd g t):=fun hB=>by
  have hS:St F G k a b u fuA fuB {s with deep:=s.deep+1} {t with deep:=t.deep+1}:=⟨h.p,by show s.deep+1=t.deep+1;rw[h.d],h.u,h.l,h.pns,h.pnt,h.a,h.fs,h.ft⟩;have hx:=g9 (kd:=kd) (B:=B) hS hf hB;exact⟨hx.p,by show _-1=_-1;rw[hx.d],hx.ups,hx.upt,hx.pns,hx.pnt,hx.m,hx.l⟩
theorem iI (h:St F G k a b u fuA fuB s t):T F G k b B u s t (aQ s) (aQ t):=g9 h fun _ _ h _ _=>T.refl h
theorem Dq {kd:Nat} (h:St F G k a b u fuA fuB s t) (hs:s.p<F.length) (ht:t.p<G.length):T F G k b B u s t (aD kd s) (aD kd t):=g9 h fun _ _ h e e' _=>mT h (by omega) (by omega)
theorem fF {c d:Ps→Ps×Bool} {A A':Nat} (hc:∀s,s.p≤F.length→LC F.length A s (c s)) (hd:∀t,t.p≤G.length→LC G.length A' t (d t)) (he:∀s t,St F G k a b u fuA fuB s t→TC F G k b B u s t (c s) (d t)) :
    ∀m s t,G.length-t.p=m→St F G k a b u fuA fuB s t→T F G k b B u s t (aZ F.length c s) (aZ G.length d t):=by
  intro m
  induction m using Nat.strongRecOn with
  | _ m ih=>
    intro s t hm h hB;rw[LC.eq hd t h.pnt] at hB ⊢;rw[LC.eq hc s h.pns]
    cases hq:(d t).2
    ·rw[hq,if_neg Bool.false_ne_true] at hB;obtain⟨h1,h2⟩:=he s t h hB;rw[h2,hq,if_neg Bool.false_ne_true,if_neg Bool.false_ne_true];exact h1
    ·rw[hq,if_pos rfl] at hB;have hg:=(hd t h.pnt).1 hq;have hl:=Gd.loop hd _ (d t).1 rfl hg.1.N;obtain⟨h1,h2⟩:=he s t h (by have:=hl.p;omega);rw[h2,hq,if_pos rfl,if_pos rfl];exact h1.trans (ih _ (by have:=hg.2;have:=hg.1.N;omega) _ _ rfl (h.next2 h1) hB)
variable (E:Gx F G k a B)
include E
theorem iH (h:St F G k a b u fuA fuB s t) (hB:t.p+2≤B):sg F s.p=sg G t.p∧dW F s.p=dW G t.p∧tx F s.p=tx G t.p:=by
  rw[h.p];exact Da (E t.p h.a (by omega))
theorem FE (h:St F G k a b u fuA fuB s t) (hB:t.p+2≤B):sg F (s.p+1)=sg G (t.p+1):=by
  rw[h.p,show t.p+k+1=t.p+1+k by omega]
  exact(Da (E (t.p+1) (by have:=h.a;omega) (by omega))).1
theorem cj (cs:List UInt8) (h:St F G k a b u fuA fuB s t) (hB:t.p+2≤B):am F cs s=am G cs t:=by unfold am;rw[(iH E h hB).1]
theorem jy (h:St F G k a b u fuA fuB s t) (hB:t.p+2≤B):aX F s=aX G t:=by unfold aX;rw[(iH E h hB).1,FE E h hB]
theorem ll (h:St F G k a b u fuA fuB s t) (hB:t.p+2≤B):cH F s=cH G t:=by unfold cH;rw[cj E _ h hB,h.d]
theorem vi (h:St F G k a b u fuA fuB s t) (hB:t.p+2≤B):lR F s=lR G t:=by unfold lR;rw[(iH E h hB).1,jy E h hB,ll E h hB]
theorem jc (h:St F G k a b u fuA fuB s t) (hB:t.p+2≤B):bH F s=bH G t:=by unfold bH;rw[(iH E h hB).1,vi E h hB]
theorem CN (h:St F G k a b u fuA fuB s t) (hB:t.p+2≤B):my F s=my G t:=by unfold my;rw[(iH E h hB).1,FE E h hB,(iH E h hB).2.2,h.d]
theorem Ah (h:St F G k a b u fuA fuB s t) (hB:t.p+2≤B):eF F s=eF G t:=by unfold eF;rw[(iH E h hB).1,(iH E h hB).2.1]
theorem gh {cs:List UInt8} (h0:cs.contains 0=false) (h:St F G k a b u fuA fuB s t) (hd:am G cs t=true):T F G k b B u s t (ai s) (ai t):=fun hB=>by
  have hB2:t.p+3≤B:=hB;exact mT h (au ((cj E cs h (by omega)).trans hd) h0) (au hd h0)
theorem mX {cs:List UInt8} (h0:cs.contains 0=false) (h:St F G k a b u fuA fuB s t):T F G k b B u s t (aG F cs s) (aG G cs t):=
  T.ite (bX h0 h.pnt).p (cj E cs h) (fun hd=>gh E h0 h hd) (fun _=>T.refl h)
theorem jM {c:UInt8} (h0:c≠0) (h:St F G k a b u fuA fuB s t):T F G k b B u s t (aI F c s) (aI G c t):=
  T.ite (bj h0 h.pnt).p (cj E [c] h) (fun hd=>gh E (by simpa using fun e=>h0 e.symm) h hd) (fun _=>iI h)
theorem je {kd:Nat} (h:St F G k a b u fuA fuB s t) (hd:dW G t.p=true):T F G k b B u s t (aD kd s) (aD kd t):=fun hB=>by
  have hB2:t.p+3≤B:=hB;exact Dq h (bC ((iH E h (by omega)).2.1.trans hd)) (bC hd) hB
theorem mW (h:St F G k a b u fuA fuB s t):T F G k b B u s t (aU F s) (aU G t):=
  T.ite (dk h.pnt).p (fun hB=>(iH E h hB).2.1) (fun hd=>je E h hd) (fun _=>iI h)
theorem fp (h:St F G k a b u fuA fuB s t):T F G k b B u s t (ac F s) (ac G t):=
  fF fy fy (fun s t h=>TC.ite (by split<;>simp[ai]) (cj E _ h) (fun hd=>TC.mk (gh E (by decide) h hd)) (fun _=>TC.mk (T.refl h))) _ s t rfl h
theorem pj (h:St F G k a b u fuA fuB s t):T F G k b B u s t (cD F s) (cD G t):=
  g9 h fun _ _ h _ _=>T.trans (T.trans (mX E (by decide) h) (bX (by decide) (bX (by decide) h.pnt).N).p fun hx=>mX E (by decide) (h.next2 hx)) (dk (bX (by decide) (bX (by decide) h.pnt).N).N).p fun hx=>mW E (h.next2 hx)
theorem wO (h:St F G k a b u fuA fuB s t):T F G k b B u s t (cI F s) (cI G t):=
  fF fH fH (fun s t h=>TC.ite (LC.upp (fH t h.pnt)) (jy E h) (fun _=>TC.mk (pj E h)) (fun _=>TC.mk (T.refl h))) _ s t rfl h
theorem AJ (h:St F G k a b u fuA fuB s t):T F G k b B u s t (eK F s) (eK G t):=
  fF gj gj (fun s t h=>TC.ite (LC.upp (gj t h.pnt)) (jy E h) (fun _=>TC.mk (pj E h)) (fun e=>TC.ite (by have:=LC.upp (gj t h.pnt);rwa [if_neg (by rw[e];decide)] at this) (fun hB=>(iH E h hB).2.1) (fun hd=>TC.mk (je E h hd)) (fun _=>TC.mk (T.refl h)))) _ s t rfl h
theorem Dp (h:St F G k a b u fuA fuB s t):T F G k b B u s t (dJ F s) (dJ G t):=by
  have h1:T F G k b B u s t _ _:=fF (B:=B) eS eS (fun s t h=>TC.ite (LC.upp (eS t h.pnt)) (jy E h) (fun _=>TC.mk (pj E h)) (fun e=>TC.ite (by have:=LC.upp (eS t h.pnt);rwa [if_neg (by rw[e];decide)] at this) (fun hB=>by rw[(iH E h hB).2.1,(iH E h hB).2.2]) (fun hd=>TC.mk (je E h ((Bool.and_eq_true _ _).mp hd).1)) (fun _=>TC.mk (T.refl h)))) _ s t rfl h;have g1:=Gd.loop (N:=G.length) eS _ t rfl h.pnt;unfold dJ;generalize aZ G.length (fun s=>if aX G s=true then (cD G s,true) else if (dW G s.p&&nU (tx G s.p))=true then (aD 6 s,true) else (s,false)) t=t1 at h1 g1 ⊢;generalize aZ F.length (fun s=>if aX F s=true then (cD F s,true) else if (dW F s.p&&nU (tx F s.p))=true then (aD 6 s,true) else (s,false)) s=s1 at h1 ⊢;have g2:Gd G.length 0 t1 (if dW G t1.p=true then eK G (aD 7 t1) else t1):=Gd.ite (fun hd=>(bY (bC hd)).2.2.trans (nF (bY (k:=7) (bC hd)).2.2.N)) (fun _=>Gd.refl g1.N);exact T.seq h h1 g2 fun h1=>T.ite g2.p (fun hB=>(iH E h1 hB).2.1) (fun hd=>T.seq h1 (je E h1 hd) (nF (bY (k:=7) (bC hd)).2.2.N) fun h2=>AJ E h2) (fun _=>T.refl h1)
variable {L M:Ps→Ps} (hL:GL F L) (hM:GL G M) (hLM:∀s t,St F G k a b u fuA fuB s t→T F G k b B u s t (L s) (M t))
include hM hLM
omit E hM in
theorem wR {kd:Nat} (h:St F G k a b u fuA fuB s t):T F G k b B u s t (an kd L s) (an kd M t):=g9 h fun _ _ h _ _=>hLM _ _ h
omit E hLM in
theorem rT (ht:t.p≤G.length):Gd G.length 4 t (if bH G t=true then an 2 M t else aQ t):=Gd.ite (fun _=>Gd.node0 (A:=3) fun r hr _=>hM r (by omega)) (fun _=>(cO ht).mono (by omega))
theorem pn (h:St F G k a b u fuA fuB s t):T F G k b B u s t (aF F L s) (aF G M t):=
  T.seq h (fp E h) (rT hM (ar h.pnt).N) fun h1=>T.ite (rT hM h1.pnt).p (jc E h1) (fun _=>wR hLM h1) (fun _=>iI h1)
theorem AI {c:UInt8} (h0:c≠0) (h:St F G k a b u fuA fuB s t):T F G k b B u s t (aI F c (aF F L s)) (aI G c (aF G M t)):=
  T.seq h (pn E hM hLM h) (bj h0 (bG hM h.pnt).N) fun h1=>jM E h0 h1
theorem CZ (h:St F G k a b u fuA fuB s t):T F G k b B u s t (aF F L (aI F 116 (aF F L s))) (aF G M (aI G 116 (aF G M t))):=
  T.seq h (AI E hM hLM (c:=116) (by decide) h) (bG hM (bj (by decide) (bG hM h.pnt).N).N) fun h1=>pn E hM hLM h1
omit E hLM in
theorem zc (ht:t.p≤G.length):Gd G.length 9 t (aF G M (aI G 116 (aF G M t))):=by
  have h1:=bG hM ht;have h2:=bj (F:=G) (c:=116) (by decide) h1.N
  exact(h1.trans h2).trans (bG hM h2.N)
include hL in
theorem Dt (h:St F G k a b u fuA fuB s t):T F G k b B u s t (iC F L s) (iC G M t):=by
  have g0:=zc hM h.pnt;have h1:∀h0:St F G k a b u fuA fuB _ _,T F G k b B u (aF F L (aI F 116 (aF F L s))) (aF G M (aI G 116 (aF G M t))) _ _:=fun h0=>fF (B:=B) (fe hL) (fe hM) (fun s t h=>TC.ite (LC.upp (fe hM t h.pnt)) (cj E _ h) (fun hd=>TC.mk (T.seq h (gh E (by decide) h hd) (zc hM (au hd (by decide))) fun h1=>CZ E hM hLM h1)) (fun _=>TC.mk (T.refl h))) _ _ _ rfl h0
  have g1:=Gd.loop (N:=G.length) (fe hM) _ _ rfl g0.N;have h2:=T.seq h (CZ E hM hLM h) g1 h1;have g01:=g0.trans g1;unfold iC;generalize aZ G.length (fun s=>if am G [101] s=true then (aF G M (aI G 116 (aF G M (ai s))),true) else (s,false)) (aF G M (aI G 116 (aF G M t)))=t1 at h2 g01 ⊢;generalize aZ F.length (fun s=>if am F [101] s=true then (aF F L (aI F 116 (aF F L (ai s))),true) else (s,false)) (aF F L (aI F 116 (aF F L s)))=s1 at h2 ⊢;have g2:Gd G.length 4 t1 (if am G [108] t1=true then aF G M (ai t1) else t1):=Gd.ite (fun hc=>by
    have h0:=au hc (by decide)
    exact(Gd.paid h0 (bG hM (Gd.next h0).1.N) (by omega)).1.mono (by omega)) (fun _=>(Gd.refl g01.N).mono (by omega))
  have h3:=T.seq h h2 g2 fun h1=>T.ite g2.p (cj E [108] h1) (fun hd=>T.seq h1 (gh E (by decide) h1 hd) (bG hM (au hd (by decide))) fun h2=>pn E hM hLM h2) (fun _=>T.refl h1)
  exact T.seq h h3 (bj (by decide) g2.N) fun h4=>jM E (by decide) h4
theorem EM (h:St F G k a b u fuA fuB s t):T F G k b B u s t (An F L s) (An G M t):=
  T.seq h (jM E (c:=100) (by decide) h) ((bG hM (bj (by decide) h.pnt).N).trans (bj (c:=103) (by decide) (bG hM (bj (by decide) h.pnt).N).N)) fun h1=>AI E hM hLM (by decide) h1
omit hM hLM in
theorem AH (h:St F G k a b u fuA fuB s t):T F G k b B u s t (eJ F s) (eJ G t):=
  fF dF dF (fun s t h=>TC.ite (LC.upp (dF t h.pnt)) (fun hB=>(iH E h hB).2.1) (fun hd=>TC.mk (je E h hd)) (fun _=>TC.mk (T.refl h))) _ s t rfl h
omit hM hLM E in
theorem tM (ht:t.p≤G.length):Gd G.length 1 t (if am G [59] t=true then ac G (ai t) else if am G [110] t=true then ac G t else aQ t):=
  Gd.ite (fun hc=>((Gd.next (au hc (by decide))).1.trans (ar (au hc (by decide)))).mono (by omega)) (fun _=>Gd.ite (fun _=>(ar ht).mono (by omega)) (fun _=>cO ht))
omit hM hLM in
theorem gE (h:St F G k a b u fuA fuB s t) {cs:List UInt8} (h0:cs.contains 0=false) (hd:am G cs t=true):T F G k b B u s t (ac F (ai s)) (ac G (ai t)):=
  T.seq h (gh E h0 h hd) (ar (au hd h0)) fun h1=>fp E h1
omit hM hLM in
theorem Ga (h:St F G k a b u fuA fuB s t) (hd:am G [107] t=true):T F G k b B u s t (sH F s) (sH G t):=by
  have g1:=rQ (F:=G) (s:=ai t) (au hd (by decide));refine T.seq h (T.seq h (gh E (by decide) h hd) g1 fun h1=>AH E h1) (tM g1.N) fun h1=>T.ite (tM h1.pnt).p (cj E _ h1) (fun hd=>gE E h1 (by decide) hd) (fun e=>T.ite ?_ (cj E _ h1) (fun _=>fp E h1) (fun _=>iI h1))
  have:=(tM h1.pnt).p
  rwa [if_neg (by rw[e];decide)] at this
theorem Ds (h:St F G k a b u fuA fuB s t):T F G k b B u s t (cG F L s) (cG G M t):=by
  have g1:Gd G.length 1 t (if (dW G t.p&&eC (tx G t.p))=true then aD 7 t else aQ t):=Gd.ite (fun hc=>(bY (bC ((Bool.and_eq_true _ _).mp hc).1)).1) (fun _=>cO h.pnt);have h1:T F G k b B u s t (if (dW F s.p&&eC (tx F s.p))=true then aD 7 s else aQ s) (if (dW G t.p&&eC (tx G t.p))=true then aD 7 t else aQ t):=T.ite g1.p (fun hB=>by rw[(iH E h hB).2.1,(iH E h hB).2.2]) (fun hd=>je E h ((Bool.and_eq_true _ _).mp hd).1) (fun _=>iI h);unfold cG;generalize (if (dW G t.p&&eC (tx G t.p))=true then aD 7 t else aQ t)=t1 at g1 h1 ⊢;generalize (if (dW F s.p&&eC (tx F s.p))=true then aD 7 s else aQ s)=s1 at h1 ⊢;have g2:Gd G.length 1 t1 (if am G [59] t1=true then ac G (ai t1) else if am G [107] (ac G t1)=true then sH G (ac G t1) else ac G t1):=by
    have h3:=ar g1.N;refine Gd.ite (fun hc=>?_) (fun _=>Gd.ite (fun hc=>?_) (fun _=>h3.mono (by omega)))
    ·have h2:=(Gd.next (au hc (by decide))).1
     exact(h2.trans (ar h2.N)).mono (by omega)
    ·simpa using h3.trans (yY (au hc (by decide)))
  have g3:am G [59] t1=false→Gd G.length 1 (ac G t1) (if am G [107] (ac G t1)=true then sH G (ac G t1) else ac G t1):=fun _=>Gd.ite (fun hc=>yY (au hc (by decide))) (fun _=>(Gd.refl (ar g1.N).N).mono (by omega))
  have h2:=T.seq h h1 g2 fun h1=>T.ite g2.p (cj E [59] h1) (fun hd=>gE E h1 (by decide) hd) (fun e=>T.seq h1 (fp E h1) (g3 e) fun h2=>T.ite (g3 e).p (cj E [107] h2) (fun hd=>Ga E h2 hd) (fun _=>T.refl h2))
  exact T.seq h h2 (uU hM g2.N) fun h3=>EM E hM hLM h3
theorem Dr (h:St F G k a b u fuA fuB s t):T F G k b B u s t (aO F L s) (aO G M t):=by
  have a1:=bX (F:=G) (cs:=[40]) (by decide) h.pnt;have a2:=dk a1.N;have a3:=Gd.loop iu _ _ rfl a2.N;have a4:=bj (F:=G) (c:=41) (by decide) a3.N;have a5:=ar a4.N;have b1:=T.seq h (mX E (cs:=[40]) (by decide) h) a2 fun h1=>mW E h1
  have b2:=T.seq h b1 a3 fun h1=>fF (B:=B) iu iu (fun s t h=>TC.ite (LC.upp (iu t h.pnt)) (cj E _ h) (fun hd=>TC.mk (T.seq h (gh E (by decide) h hd) (dk (au hd (by decide))) fun h1=>mW E h1)) (fun _=>TC.mk (T.refl h))) _ _ _ rfl h1
  have b3:=T.seq h b2 a4 fun h1=>jM E (c:=41) (by decide) h1
  have b4:=T.seq h b3 a5 fun h1=>fp E h1
  have a6:Gd G.length 4 (ac G (aI G 41 (aZ G.length (fun s=>if am G [124] s=true then (aU G (ai s),true) else (s,false)) (aU G (aG G [40] t))))) (aO G M t):=Gd.ite (fun _=>Gd.node0 (A:=3) fun r hr _=>hM r (by have:=a5.N;omega)) (fun _=>(Gd.refl a5.N).mono (by omega));exact T.seq h b4 a6 fun h1=>T.ite a6.p (jc E h1) (fun _=>wR hLM h1) (fun _=>T.refl h1)
include hL in
theorem AL (h:St F G k a b u fuA fuB s t):T F G k b B u s t (eR F L s) (eR G M t):=by
  have a1:=dk h.pnt;have a2:=ar a1.N;have a3:=bj (F:=G) (c:=107) (by decide) a2.N;have a4:=ar a3.N;have a5:=Gd.loop (dw hM) _ _ rfl a4.N;have b1:=T.seq h (mW E h) a2 fun h1=>fp E h1
  have b2:=T.seq h b1 a3 fun h1=>jM E (c:=107) (by decide) h1
  have b3:=T.seq h b2 a4 fun h1=>fp E h1
  have b4:=T.seq h b3 a5 fun h1=>fF (B:=B) (dw hL) (dw hM) (fun s t h=>TC.ite (LC.upp (dw hM t h.pnt)) (Ah E h) (fun hd=>by
    have c1:=LC.upp (dw hM t h.pnt);rw[if_pos hd] at c1;have n1:=(mO hM hd).1;have h1:T F G k b B u s t (an 15 (aO F L) s) (an 15 (aO G M) t):=g9 h fun _ _ h _ _=>Dr E hM hLM h
    intro hB;have m1:(an 15 (aO G M) t).p≤(if am G [121] (an 15 (aO G M) t)=true then (ac G (ai (an 15 (aO G M) t)),true) else (an 15 (aO G M) t,false)).1.p:=by
      split
      ·rename_i hc;exact Nat.le_trans (Nat.le_succ _) (ar (s:=ai (an 15 (aO G M) t)) (au hc (by decide))).p
      ·exact Nat.le_refl _
    have x1:=h1 (by omega);have h2:=h.next2 x1;obtain⟨x2,e2⟩:=TC.ite (B:=B) (F:=F) (G:=G) (k:=k) (b:=b) (u:=u) m1 (cj E [121] h2) (fun hd=>TC.mk (gE E h2 (by decide) hd)) (fun _=>TC.mk (T.refl h2)) hB;exact⟨x1.trans x2,e2⟩) (fun _=>TC.mk (T.refl h))) _ _ _ rfl h1
  exact T.seq h b4 (bj (by decide) a5.N) fun h1=>jM E (by decide) h1
include hL in
theorem EL (c:UInt8) (h:St F G k a b u fuA fuB s t):T F G k b B u s t (oo F L c s) (oo G M c t):=by
  unfold oo;by_cases e:c=40
  ·rw[if_pos e,if_pos e];exact AI E hM hLM (by decide) h
  rw[if_neg e,if_neg e];by_cases e:c=105
  ·rw[if_pos e,if_pos e];exact Dt E hL hM hLM h
  rw[if_neg e,if_neg e];by_cases e:c=119
  ·rw[if_pos e,if_pos e];exact T.seq h (pn E hM hLM h) (uU hM (bG hM h.pnt).N) fun h1=>EM E hM hLM h1
  rw[if_neg e,if_neg e];by_cases e:c=114
  ·rw[if_pos e,if_pos e];exact Ds E hM hLM h
  rw[if_neg e,if_neg e];by_cases e:c=99
  ·rw[if_pos e,if_pos e];exact AL E hL hM hLM h
  rw[if_neg e,if_neg e];exact AI E hM hLM (by decide) h
end
section
variable {F G:List Lf} {k a b B fuA fuB:Nat} {u:Int} {s t s1 t1 s2 t2:Ps}
theorem EQ (h:St F G k a b u (fuA+1) (fuB+1) s t) (hs:s.p<F.length) (ht:t.p<G.length):St F G k a b u fuA fuB (ai s) (ai t):=by
  have h1:=h.next2 (mT h hs ht);have e1:(ai s).p=s.p+1:=rfl;have e2:(ai t).p=t.p+1:=rfl;have a1:=h.fs;have a2:=h.ft;exact⟨h1.p,h1.d,h1.u,h1.l,h1.pns,h1.pnt,h1.a,by omega,by omega⟩
variable (E:Gx F G k a B) {L M:Ps→Ps} (hL:GL F L) (hM:GL G M) (hLM:∀s t,St F G k a b u fuA fuB s t→T F G k b B u s t (L s) (M t))
include E hL hM hLM
theorem wS (h:St F G k a b u (fuA+1) (fuB+1) s t) (hd:cH G t=true):T F G k b B u s t (cT F L s) (cT G M t):=fun hB=>by
  have hp:=(mQ hM (dO hd)).2;have e:=(iH E h (by omega)).1;have hs:=dO ((ll E h (by omega)).trans hd);have ht:=dO hd;unfold cT at hB ⊢;rw[e];refine wP h (fun s' t' h' e1 e2=>?_) hB;have h1:=EQ h' (by omega) (by omega);have g1:=iZ hM (sg G t.p) h1.pnt;exact T.trans (fun _=>mT h' (by omega) (by omega)) (g1.trans (jr g1.N)).p fun _=>T.seq h1 (EL E hL hM hLM _ h1) (jr g1.N) fun h2=>wO E h2
theorem EN (h:St F G k a b u (fuA+1) (fuB+1) s t):T F G k b B u s t (jE F L s) (jE G M t):=by
  have a1:=dk h.pnt;have a2:=bX (F:=G) (cs:=[40]) (by decide) a1.N;have a3:=bj (F:=G) (c:=41) (by decide) a2.N;have a4:=ar a3.N;have b1:=T.seq h (mW E h) a2 fun h1=>mX E (cs:=[40]) (by decide) h1
  have b2:=T.seq h b1 a3 fun h1=>jM E (c:=41) (by decide) h1
  have b3:=T.seq h b2 a4 fun h1=>fp E h1
  have a5:Gd G.length 1 (ac G (aI G 41 (aG G [40] (aU G t)))) (jE G M t):=Gd.ite (fun hc=>(mQ hM (dO hc)).1.mono (by omega)) (fun _=>cO a4.N);exact T.seq h b3 a5 fun h1=>T.ite a5.p (ll E h1) (fun hd=>wS E hL hM hLM h1 hd) (fun _=>iI h1)
theorem CY (h:St F G k a b u (fuA+1) (fuB+1) s t):T F G k b B u s t (gT F L s) (gT G M t):=by
  have g:=(lN hM h.pnt).p;refine T.ite g (ll E h) (fun hd=>wS E hL hM hLM h hd) (fun e=>?_);unfold gT at g;rw[if_neg (by rw[e];decide)] at g;refine T.ite g (CN E h) (fun hd=>wP h fun s' t' h' e1 e2=>EN E hL hM hLM h') (fun e=>?_);rw[if_neg (by rw[e];decide)] at g;exact T.ite g (vi E h) (fun _=>g9 h fun _ _ h _ _=>Dp E h) (fun _=>iI h)
theorem AK (h:St F G k a b u (fuA+1) (fuB+1) s t):T F G k b B u s t (ii F L s) (ii G M t):=by
  have a1:=bX (F:=G) (cs:=[33]) (by decide) h.pnt;have a2:=lN hM a1.N;have a3:=Gd.loop (gk hM) _ _ rfl a2.N;exact T.seq h (T.seq h (mX E (cs:=[33]) (by decide) h) a2 fun h1=>CY E hL hM hLM h1) a3 fun h1=>fF (B:=B) (gk hL) (gk hM) (fun s t h=>TC.ite (LC.upp (gk hM t h.pnt)) (cj E _ h) (fun hd=>TC.mk (T.seq h (gE E h (by decide) hd) (lN hM (ar (s:=ai t) (au hd (by decide))).N) fun h1=>CY E hL hM hLM h1)) (fun _=>TC.mk (T.refl h))) _ _ _ rfl h1
theorem CX (h:St F G k a b u (fuA+1) (fuB+1) s t):T F G k b B u s t (jA F L s) (jA G M t):=
  T.ite (lL hM h.pnt).p (jc E h) (fun _=>g9 h fun _ _ h _ _=>AK E hL hM hLM h) (fun _=>iI h)
theorem EO (h:St F G k a b u (fuA+1) (fuB+1) s t):T F G k b B u s t (bv F L s) (bv G M t):=by
  have a1:=lL hM h.pnt;have a2:=Gd.loop (mi hM) _ _ rfl a1.N;exact T.seq h (CX E hL hM hLM h) a2 fun h1=>fF (B:=B) (mi hL) (mi hM) (fun s t h=>TC.ite (LC.upp (mi hM t h.pnt)) (cj E _ h) (fun hd=>TC.mk (T.seq h (gE E h (by decide) hd) (lL hM (ar (s:=ai t) (au hd (by decide))).N) fun h1=>CX E hL hM hLM h1)) (fun _=>TC.mk (T.refl h))) _ _ _ rfl h1
theorem wT (h:St F G k a b u (fuA+1) (fuB+1) s t):T F G k b B u s t (an 3 (bv F L) s) (an 3 (bv G M) t):=g9 h fun _ _ h _ _=>EO E hL hM hLM h
omit hL hM hLM in
theorem EJ (h:St F G k a b u fuA fuB s t) (hm:t.p≤(cR G t).1.p):TC F G k b B u s t (cR F s) (cR G t):=by
  refine TC.ite hm (cj E _ h) (fun hd hB=>?_) (fun e=>TC.ite (by unfold cR at hm;rwa [if_neg (by rw[e];decide)] at hm) (cj E _ h) (fun hd hB=>?_) (fun _=>TC.mk (T.refl h)))
  ·have x:=gE E h (by decide) hd hB;exact⟨x,jc E (h.next2 x) hB⟩
  ·have x:=fp E h hB;exact⟨x,jc E (h.next2 x) hB⟩
omit E hL hM hLM in
theorem Ec (ht:t.p≤G.length):t.p≤(cR G t).1.p∧(cR G t).1.p≤G.length:=by
  unfold cR;split
  ·rename_i hd
   have:=ar (F:=G) (s:=ai t) (au hd (by decide))
   exact⟨Nat.le_trans (Nat.le_succ _) this.p,this.N⟩
  ·split
   ·exact⟨(ar ht).p,(ar ht).N⟩
   ·exact⟨Nat.le_refl _,ht⟩
theorem EK (h:St F G k a b u (fuA+1) (fuB+1) s t):T F G k b B u s t (nm F L s) (nm G M t):=
  fF (gr hL) (gr hM) (fun s t h hB=>by
    have g:=Gd.node0 (k:=3) (s:=t) (f:=bv G M) (A:=2) (N:=G.length) fun r hr _=>jU hM (by have:=h.pnt;omega)
    have gs:=Ec g.N;have x:=wT E hL hM hLM h (by omega);obtain⟨y,e⟩:=EJ E (h.next2 x) gs.1 hB;exact⟨x.trans y,e⟩) _ s t rfl h
end
theorem wQ {F G:List Lf} {k a b B:Nat} {u:Int} (E:Gx F G k a B):∀(fuA fuB:Nat) (s t:Ps),St F G k a b u fuA fuB s t→T F G k b B u s t (ef F fuA s) (ef G fuB t)
  | 0,fuB,s,t,h=>by have:=h.fs;have:=h.pns;omega
  | fuA+1,0,s,t,h=>by have:=h.ft;have:=h.pnt;omega
  | fuA+1,fuB+1,s,t,h=>EK E (cy F fuA) (cy G fuB) (fun s t h=>wQ E fuA fuB s t h) h
theorem sw (F:List Lf) (n:Nat) (hn:F.length≤n) {s:Ps} (h:s.p≤F.length) (hd:s.deep=0) :
    (an 3 (bv F (ef F n)) s).l=s.l++(cK F s.p).l.map (om 0 s.l.length s.up)∧(an 3 (bv F (ef F n)) s).p=(cK F s.p).p∧(an 3 (bv F (ef F n)) s).deep=0:=by
  have x:=wT (F:=F) (G:=F) (k:=0) (a:=0) (b:=s.l.length) (B:=(cK F s.p).p+2) (u:=s.up) (fuA:=n) (fuB:=F.length+1) (fun i _ _=>rfl) (cy F _) (cy F _) (fun s t h=>wQ (fun i _ _=>rfl) _ _ s t h) (s:=s) (t:=eI s.p)
    ⟨rfl,hd,show s.up=wA s.l.length s.up (-1) by unfold wA;rw[if_pos (by decide)],by show _=0+s.l.length;omega,h,h,Nat.zero_le _,by omega,by omega⟩ (Nat.le_refl _)
  obtain⟨m,h1,h2⟩:=x.l;have e:m=(cK F s.p).l:=by
    have h3:(cK F s.p).l=([]:List Nd)++m:=h1;rw[h3,List.nil_append]
  rw[e] at h2;exact⟨h2,x.p,x.d.trans (Ef F h).dp⟩
inductive sL (F:List Lf) (u:Nat):Nat→List Nd→List Nat→Prop
  | nil (b:Nat):sL F u b [] []
  | cons (b p:Nat) (m:List Nd) (cs:List Nat) (hp:p≤F.length) (h:sL F u (b+(cK F p).l.length) m cs):sL F u b ((cK F p).l.map (om 0 b (u:Int))++m) (p::cs)
inductive nW (F:List Lf):Nat→List Nd→List Nat→Prop
  | nil (b:Nat):nW F b [] []
  | err (b f t:Nat) (r:List Nd) (cs:List Nat) (h:nW F (b+1) r cs):nW F b (⟨17,f,t,0⟩::r) cs
  | lst (b f t:Nat) (m r:List Nd) (cs ds:List Nat) (hm:sL F b (b+1) m cs) (h:nW F (b+1+m.length) r ds):nW F b (⟨2,f,t,0⟩::(m++r)) (cs++ds)
theorem sL.app {F:List Lf} {u b:Nat} {m:List Nd} {cs:List Nat} (h:sL F u b m cs):∀{p:Nat},p≤F.length→sL F u b (m++(cK F p).l.map (om 0 (b+m.length) (u:Int))) (cs++[p]):=by
  induction h with
  | nil b=>intro p hp;simpa using sL.cons b p [] [] hp (sL.nil _)
  | cons b p m cs hp h ih=>
    intro q hq;have e:b+((cK F p).l.map (om 0 b (u:Int))++m).length=b+(cK F p).l.length+m.length:=by simp;omega
    rw[e,List.append_assoc];exact sL.cons b p _ _ hp (ih hq)
theorem nW.app {F:List Lf} {b:Nat} {m:List Nd} {cs:List Nat} (h:nW F b m cs):∀{r:List Nd} {ds:List Nat},nW F (b+m.length) r ds→nW F b (m++r) (cs++ds):=by
  induction h with
  | nil b=>intro r ds hr;exact hr
  | err b f t r cs h ih=>
    intro q ds hq;rw[List.cons_append];refine nW.err b f t _ _ (ih ?_);rw[List.length_cons] at hq
    rwa [show b+1+r.length=b+(r.length+1) by omega]
  | lst b f t m r cs es hm h ih=>
    intro q ds hq;rw[List.cons_append,List.append_assoc,List.append_assoc];refine nW.lst b f t m _ _ _ hm (ih ?_);rw[List.length_cons,List.length_append] at hq
    rwa [show b+1+m.length+r.length=b+(m.length+r.length+1) by omega]
theorem BZ {F:List Lf} {n:Nat} (hn:F.length≤n):∀(m:Nat) (s:Ps),F.length-s.p=m→s.p≤F.length→s.deep=0→∀u:Nat,s.up=(u:Int) →
    ∃r cs,(nm F (ef F n) s).l=s.l++r∧sL F u s.l.length r cs:=by
  intro m
  induction m using Nat.strongRecOn with
  | _ m ih=>
    intro s hm hs hd u hu;have hL:=cy F n;obtain⟨e1,e2,e3⟩:=sw F n hn hs hd;have g:=Gd.node0 (k:=3) (s:=s) (f:=bv F (ef F n)) (A:=2) (N:=F.length) fun r hr _=>jU hL (by omega)
    have hc:=gr hL s hs;have hsl:(cR F (an 3 (bv F (ef F n)) s)).1.l=(an 3 (bv F (ef F n)) s).l:=ES g.N;unfold nm;rw[LC.eq (gr hL) s hs];have one:=(sL.nil (F:=F) (u:=u) s.l.length).app (p:=s.p) hs;rw[List.nil_append,List.length_nil,Nat.add_zero] at one
    cases hq:(cR F (an 3 (bv F (ef F n)) s)).2
    ·rw[if_neg Bool.false_ne_true,hsl,e1,hu];exact⟨_,_,rfl,one⟩
    ·rw[if_pos rfl];have h1:=hc.1 hq;obtain⟨r,cs,h2,h3⟩:=ih _ (by have:=h1.2;have:=h1.1.N;omega) (cR F (an 3 (bv F (ef F n)) s)).1 rfl h1.1.N (h1.1.dp.trans hd) u (h1.1.up.trans hu);have h2:(aZ F.length (fun s=>cR F (an 3 (bv F (ef F n)) s)) (cR F (an 3 (bv F (ef F n)) s)).1).l=_:=h2;rw[h2,hsl,e1,hu,List.append_assoc];refine⟨_,s.p::cs,rfl,?_⟩;rw[hsl,e1,List.length_append,List.length_map] at h3;exact sL.cons _ _ _ _ hs h3
theorem xJ {F:List Lf} {n:Nat} (hn:F.length≤n):∀(m:Nat) (x:Ps×Bool),2*F.length+1-fJ x=m→x.1.p≤F.length→x.1.deep=0→x.1.up=0 →
    ∃r cs,(eV F (ef F (n+1)) x).1.l=x.1.l++r∧nW F x.1.l.length r cs:=by
  intro m
  induction m using Nat.strongRecOn with
  | _ m ih=>
    intro x hm hx hd hu;have hL:=cy F (n+1);rw[fI hL x hx];by_cases hc:(bV F (ef F (n+1)) x).2=true
    ·have h1:=iN hL x hx hc;have h2:=gF h1.2.1;rw[if_pos hc];obtain⟨r,ds,e1,e2⟩:=ih _ (by omega) _ rfl h1.2.1 (h1.2.2.1.dp.trans hd) (h1.2.2.1.up.trans hu);rw[e1];have key:∃q cs,(bV F (ef F (n+1)) x).1.1.l=x.1.l++q∧nW F x.1.l.length q cs:=by
       obtain⟨s,b⟩:=x;replace hx:s.p≤F.length:=hx;unfold bV;by_cases h1:am F [110] s=true
       ·simp only[h1,if_true];exact⟨[],[],by simp[ai],nW.nil _⟩
       ·simp only[h1,if_false,Bool.false_eq_true];by_cases h2:(!b&&bH F s)=true
        ·simp only[h2,if_true];obtain⟨r,cs,e1,e2⟩:=BZ hn _ {s with l:=s.l++[⟨2,s.p,0,s.up⟩],up:=(s.l.length:Int)} rfl hx hd s.l.length rfl;have e1:(ef F (n+1) {s with l:=s.l++[⟨2,s.p,0,s.up⟩],up:=(s.l.length:Int)}).l=(s.l++[⟨2,s.p,0,s.up⟩])++r:=e1;refine⟨⟨2,s.p,(ef F (n+1) {s with l:=s.l++[⟨2,s.p,0,s.up⟩],up:=(s.l.length:Int)}).p,0⟩::r,cs++[],?_,?_⟩
         ·show dh (ef F (n+1) _).l s.l.length _=_;rw[e1,List.append_assoc];have hu:s.up=0:=hu;rw[hu];exact iq s.l _ r _
         ·have e2:sL F s.l.length (s.l++[(⟨2,s.p,0,s.up⟩:Nd)]).length r cs:=e2;rw[List.length_append] at e2
          have:=nW.lst (F:=F) s.l.length s.p (ef F (n+1) {s with l:=s.l++[⟨2,s.p,0,s.up⟩],up:=(s.l.length:Int)}).p r [] cs [] e2 (nW.nil _)
          rwa [List.append_nil r] at this
        ·simp only[h2,if_false,Bool.false_eq_true];by_cases h3:s.p<F.length
         ·simp only[h3,if_true];refine⟨[⟨17,s.p,s.p+1,0⟩],[],?_,nW.err _ _ _ _ _ (nW.nil _)⟩;show dh (s.l++[_]) s.l.length _=_;have hu:s.up=0:=hu;rw[hu];exact iq s.l _ [] _
         ·simp only[h3,if_false];exact⟨[],[],by simp,nW.nil _⟩
     obtain⟨q,cs,e3,e4⟩:=key;rw[e3,List.append_assoc];refine⟨_,cs++ds,rfl,e4.app ?_⟩;rw[e3,List.length_append] at e2;exact e2
    ·rw[if_neg hc];obtain⟨s,b⟩:=x;replace hx:s.p≤F.length:=hx;unfold bV at hc ⊢;by_cases h1:am F [110] s=true
     ·simp[h1] at hc
     ·simp only[h1,if_false,Bool.false_eq_true] at hc ⊢;by_cases h2:(!b&&bH F s)=true
      ·simp[h2] at hc
      ·simp only[h2,if_false,Bool.false_eq_true] at hc ⊢;by_cases h3:s.p<F.length
       ·simp[h3] at hc
       ·simp only[h3,if_false];exact⟨[],[],by simp,nW.nil _⟩
theorem vJ (F:List Lf):∃r cs,(cE F).l=⟨1,0,F.length, -1⟩::r∧nW F 1 r cs:=by
  obtain⟨r,cs,e1,e2⟩:=xJ (F:=F) (n:=F.length) (Nat.le_refl _) _ (({eI 0 with l:=(eI 0).l++[⟨1,(eI 0).p,0,(eI 0).up⟩],up:=((eI 0).l.length:Int)}:Ps),false) rfl (Nat.zero_le _) rfl rfl;refine⟨r,cs,?_,e2⟩;show dh (eV F (iG F) _).1.l 0 _=_;rw[e1];have hp:=(yW F).2;have hp:(eV F (iG F) (({eI 0 with l:=(eI 0).l++[⟨1,(eI 0).p,0,(eI 0).up⟩],up:=((eI 0).l.length:Int)}:Ps),false)).1.p=F.length:=hp;show dh (⟨1,0,0, -1⟩::r) 0 (eV F (iG F) (({eI 0 with l:=(eI 0).l++[⟨1,(eI 0).p,0,(eI 0).up⟩],up:=((eI 0).l.length:Int)}:Ps),false)).1.p=_;rw[hp];rfl
theorem qy (F:List Lf) {p:Nat} (hp:p≤F.length):∃m,(cK F p).l=⟨3,p,(cK F p).p, -1⟩::m∧∀x∈m,0≤x.up∧x.up≤(m.length:Int):=by
  have hg:=jU (cy F (F.length+1)) (s:=({eI p with l:=(eI p).l++[⟨3,(eI p).p,0,(eI p).up⟩],up:=((eI p).l.length:Int)}:Ps)) hp;obtain⟨m,h1,h2⟩:=hg.f;refine⟨m,?_,fun x hx=>?_⟩
  ·show dh (bv F (iG F) _).l 0 _=_;rw[h1];rfl
  ·rcases h2.ups x hx with h|h
   ·have h:x.up=0:=h;omega
   ·have h:(1:Int)≤x.up∧x.up<((1+m.length:Nat):Int):=h;omega
structure FF (F:List Lf) (L:List Nd) (i p u:Nat):Prop where
  ex:∃pre post,L=pre++((cK F p).l.map (om 0 i (u:Int))++post)∧pre.length=i∧∀z,post[0]? = some z→z.up<(i:Int)
  p:p≤F.length
  u:1≤u∧u<i
theorem CH {F:List Lf} {u b:Nat} {m:List Nd} {cs:List Nat} (h:sL F u b m cs) (hu:1≤u∧u<b):∀(pre post:List Nd),pre.length=b→(∀z,post[0]? = some z→z.up≤(u:Int))→(∀(v:Nat) (y:Nd),(pre++(m++post))[v]? = some y→y.kd=2→y.up=0→v<b∨b+m.length≤v) →
    ∀(j:Nat) (x:Nd),m[j]? = some x→x.kd=3→(∃v:Nat,x.up=(v:Int)∧∃y,(pre++(m++post))[v]? = some y∧y.kd=2∧y.up=0)→∃p,x.fr=p∧FF F (pre++(m++post)) (b+j) p u:=by
  induction h with
  | nil b=>intro pre post _ _ _ j x hx;simp at hx
  | cons b p m cs hp h ih=>
    intro pre post hpre hpost hno j x hx h3 hv;obtain⟨c,hc1,hc2⟩:=qy F hp;have hlen:((cK F p).l.map (om 0 b (u:Int))).length=(cK F p).l.length:=List.length_map _;have hhead:∀z,(m++post)[0]? = some z→z.up≤(u:Int):=fun z hz=>by
      cases h with
      | nil=>exact hpost z (by simpa using hz)
      | cons _ q m' _ hq _=>
        obtain⟨c',hc3,_⟩:=qy F hq;rw[hc3] at hz
        have:om 0 (b+(cK F p).l.length) (u:Int) ⟨3,q,(cK F q).p, -1⟩=z:=by simpa using hz
        rw[←this];unfold om wA;simp
    rcases Nat.lt_or_ge j (cK F p).l.length with hj|hj
    ·rw[List.getElem?_append_left (by rw[hlen];exact hj),List.getElem?_map] at hx
     cases j with
     | zero=>
       rw[hc1] at hx;have hx:om 0 b (u:Int) ⟨3,p,(cK F p).p, -1⟩=x:=by simpa using hx
       refine⟨p,by rw[←hx];rfl,⟨pre,m++post,by rw[List.append_assoc];rfl,hpre,fun z hz=>?_⟩,hp,hu⟩
       have:=hhead z hz
       omega
     | succ j=>
       exfalso;rw[hc1,List.getElem?_cons_succ] at hx;obtain⟨y,hy,rfl⟩:=Option.map_eq_some_iff.1 hx;have h0:=hc2 y (List.mem_of_getElem? hy);obtain⟨v,hv1,z,hz1,hz2,hz3⟩:=hv;have hv2:y.up+(b:Int)=(v:Int):=by
         rw[←hv1];show _=wA b u y.up;unfold wA;rw[if_neg (by omega)]
       have hcl:(cK F p).l.length=c.length+1:=by rw[hc1];rfl
       rcases hno v z hz1 hz2 hz3 with h4|h4
       ·omega
       ·rw[List.length_append,hlen] at h4;omega
    ·rw[List.getElem?_append_right (by rw[hlen];exact hj),hlen] at hx;have e:pre++((cK F p).l.map (om 0 b (u:Int))++m++post)=(pre++(cK F p).l.map (om 0 b (u:Int)))++(m++post):=by simp
     rw[e] at hno hv ⊢;obtain⟨q,h4,h5⟩:=ih (by omega) (pre++(cK F p).l.map (om 0 b (u:Int))) post (by rw[List.length_append,hlen,hpre]) hpost (fun v y h1 h2 h3=>by
       have:=hno v y h1 h2 h3
       rw[List.length_append,hlen] at this;rcases this with h6|h6
       ·exact .inl (by omega)
       ·exact .inr (by omega)) _ x hx h3 hv
     refine⟨q,h4,?_⟩
     rwa [show b+(cK F p).l.length+(j-(cK F p).l.length)=b+j by omega] at h5
theorem xK {F:List Lf} {b:Nat} {r:List Nd} {cs:List Nat} (h:nW F b r cs):∀z,r[0]? = some z→z.up=0:=by
  intro z hz
  cases h with
  | nil=>simp at hz
  | err b f t r _ h=>
    have:(⟨17,f,t,0⟩:Nd)=z:=by simpa using hz
    rw[←this]
  | lst b f t m r _ _ hm h=>
    have:(⟨2,f,t,0⟩:Nd)=z:=by simpa using hz
    rw[←this]
theorem Eq {F:List Lf} {u b:Nat} {m:List Nd} {cs:List Nat} (h:sL F u b m cs) (hu:1≤u∧u<b):∀x∈m,1≤x.up:=by
  induction h with
  | nil b=>intro x hx;cases hx
  | cons b p m cs hp h ih=>
    intro x hx;rcases List.mem_append.1 hx with hx|hx
    ·obtain⟨y,hy,rfl⟩:=List.mem_map.1 hx;unfold om wA;simp only;split<;>omega
    ·exact ih (by omega) x hx
theorem Bt {F:List Lf} {b:Nat} {r:List Nd} {cs:List Nat} (h:nW F b r cs) (hb:1≤b):∀(pre:List Nd),pre.length=b →
    ∀(j:Nat) (x:Nd),r[j]? = some x→x.kd=3→(∃v:Nat,x.up=(v:Int)∧∃y,(pre++r)[v]? = some y∧y.kd=2∧y.up=0)→∃p u,x.fr=p∧FF F (pre++r) (b+j) p u:=by
  induction h with
  | nil b=>intro pre _ j x hx;simp at hx
  | err b f t r cs h ih=>
    intro pre hpre j x hx h3 hv
    cases j with
    | zero=>
      have:(⟨17,f,t,0⟩:Nd)=x:=by simpa using hx
      rw[←this] at h3;cases h3
    | succ j=>
      have e:pre++⟨17,f,t,0⟩::r=(pre++[⟨17,f,t,0⟩])++r:=by simp
      rw[e] at hv ⊢;obtain⟨p,u,h1,h2⟩:=ih (by omega) (pre++[⟨17,f,t,0⟩]) (by simp[hpre]) j x (by simpa using hx) h3 hv;rw[show b+1+j=b+(j+1) by omega] at h2;exact⟨p,u,h1,h2⟩
  | lst b f t m r cs ds hm h ih=>
    intro pre hpre j x hx h3 hv
    cases j with
    | zero=>
      have:(⟨2,f,t,0⟩:Nd)=x:=by simpa using hx
      rw[←this] at h3;cases h3
    | succ j=>
      rw[List.getElem?_cons_succ] at hx;have hup:=Eq hm ⟨hb,by omega⟩;rcases Nat.lt_or_ge j m.length with hj|hj
      ·rw[List.getElem?_append_left hj] at hx;have e:pre++⟨2,f,t,0⟩::(m++r)=(pre++[⟨2,f,t,0⟩])++(m++r):=by simp
       rw[e] at hv ⊢;obtain⟨p,h1,h2⟩:=CH hm ⟨hb,by omega⟩ (pre++[⟨2,f,t,0⟩]) r (by simp[hpre]) (fun z hz=>by rw[xK h z hz];omega) (fun v y h1 h2 h4=>by
         have hl:(pre++[(⟨2,f,t,0⟩:Nd)]).length=b+1:=by simp[hpre]
         rcases Nat.lt_or_ge v (b+1) with h5|h5
         ·exact .inl h5
         ·rcases Nat.lt_or_ge v (b+1+m.length) with h6|h6
          ·exfalso;rw[List.getElem?_append_right (by omega),List.getElem?_append_left (by omega)] at h1
           have:=hup y (List.mem_of_getElem? h1)
           omega
          ·exact .inr h6) j x hx h3 hv
       rw[show b+1+j=b+(j+1) by omega] at h2;exact⟨p,b,h1,h2⟩
      ·rw[List.getElem?_append_right hj] at hx;have e:pre++⟨2,f,t,0⟩::(m++r)=(pre++⟨2,f,t,0⟩::m)++r:=by simp
       rw[e] at hv ⊢;obtain⟨p,u,h1,h2⟩:=ih (by omega) (pre++⟨2,f,t,0⟩::m) (by simp[hpre];omega) (j-m.length) x hx h3 hv;rw[show b+1+m.length+(j-m.length)=b+(j+1) by omega] at h2;exact⟨p,u,h1,h2⟩
theorem Do (F:List Lf) {i:Nat} (h:mq (cE F).l i=true):∃p u x,(cE F).l[i]? = some x∧x.fr=p∧FF F (cE F).l i p u:=by
  obtain⟨r,cs,hr,hp⟩:=vJ F;unfold mq at h;split at h
  ·rename_i x hx;simp only[Bool.and_eq_true,beq_iff_eq,decide_eq_true_eq] at h;obtain⟨⟨⟨h3,h1⟩,h2⟩,h4⟩:=h;unfold sO at h4;split at h4
   ·rename_i y hy;simp only[Bool.and_eq_true,beq_iff_eq] at h4;rw[hr] at hx hy ⊢
    cases i with
    | zero=>
      have:(⟨1,0,F.length, -1⟩:Nd)=x:=by simpa using hx
      rw[←this] at h3;cases h3
    | succ i=>
      obtain⟨p,u,e1,e2⟩:=Bt hp (Nat.le_refl _) [⟨1,0,F.length, -1⟩] rfl i x (by simpa using hx) h3 ⟨x.up.toNat,by omega,y,hy,h4.1,h4.2⟩;rw[Nat.add_comm] at e2;exact⟨p,u,x,hx,e1,e2⟩
   ·cases h4
  ·cases h
structure De (F:List Lf) (L:List Nd) (i p:Nat):Prop where
  le:i+(cK F p).l.length≤L.length
  pos:0<(cK F p).l.length
  pl:p≤F.length
  fst:L[i]? = none∨∃y,L[i]? = some y∧y.fr=p∧y.tt=(cK F p).p
  row:∀(j:Nat) (x:Nd),(cK F p).l[j]? = some x→∃y,L[i+j]? = some y∧y.kd=x.kd∧y.fr=x.fr∧y.tt=x.tt∧(0<j→0≤x.up∧y.up=x.up+(i:Int))∧(j=0→x.up = -1)
  nxt:∀z,L[i+(cK F p).l.length]? = some z→z.up<(i:Int)
theorem FF.sub {F:List Lf} {L:List Nd} {i p u:Nat} (h:FF F L i p u):De F L i p:=by
  obtain⟨pre,post,e,hp,hn⟩:=h.ex;obtain⟨c,hc1,hc2⟩:=qy F h.p;have hcl:(cK F p).l.length=c.length+1:=by rw[hc1];rfl
  have hlen:((cK F p).l.map (om 0 i (u:Int))).length=(cK F p).l.length:=List.length_map _;have hrow:∀(j:Nat) (x:Nd),(cK F p).l[j]? = some x→L[i+j]? = some (om 0 i (u:Int) x):=fun j x hx=>by
    have hj:=(List.getElem?_eq_some_iff.1 hx).1;rw[e,List.getElem?_append_right (by omega),hp,Nat.add_sub_cancel_left,List.getElem?_append_left (by rw[hlen];exact hj),List.getElem?_map,hx];rfl
  refine⟨?_,by omega,h.p,.inr ⟨_,hrow 0 _ (by rw[hc1];rfl),rfl,rfl⟩,fun j x hx=>⟨_,hrow j x hx,rfl,rfl,rfl,fun hj=>?_,fun hj=>?_⟩,fun z hz=>?_⟩
  ·rw[e];simp;omega
  ·obtain⟨j,rfl⟩:∃k,j=k+1:=⟨j-1,by omega⟩;rw[hc1,List.getElem?_cons_succ] at hx
   have:=hc2 x (List.mem_of_getElem? hx)
   refine⟨this.1,?_⟩;show wA i u x.up=_;unfold wA;rw[if_neg (by omega)]
  ·subst hj;rw[hc1] at hx
   have:(⟨3,p,(cK F p).p, -1⟩:Nd)=x:=by simpa using hx
   rw[←this]
  ·rw[e,List.getElem?_append_right (by omega),hp,Nat.add_sub_cancel_left,List.getElem?_append_right (by rw[hlen];exact Nat.le_refl _),hlen,Nat.sub_self] at hz;exact hn z hz
def sI (L:List Nd) (i:Nat):Nat:=match L[i]? with|some x=>x.fr|none=>0
theorem gS {F:List Lf} {s:Ps}:am F [110] s=(sg F s.p==110):=by
  unfold am;show List.elem (sg F s.p) [110]=_;unfold List.elem
  cases (sg F s.p==110)<;>rfl
theorem pP {F:List Lf} {s:Ps} (h:s.deep=0):bH F s=bH F (eI s.p):=by
  unfold bH lR aX cH am;rw[h];rfl
theorem nt {F:List Lf}:∀(n:Nat) (s:Ps) (q:Nat),q-s.p=n→s.p≤q→q≤F.length→(∀i,s.p≤i→i<q→sg F i=110)→sg F q≠110→ac F s=⟨q,s.l,s.up,s.deep⟩
  | 0,s,q,hn,h1,h2,h3,h4=>by
    obtain rfl:q=s.p:=by omega
    unfold ac;rw[LC.eq fy s h2,gS,beq_false_of_ne h4];rfl
  | n+1,s,q,hn,h1,h2,h3,h4=>by
    have hc:am F [110] s=true:=by rw[gS,h3 s.p (Nat.le_refl _) (by omega)];rfl
    unfold ac;rw[LC.eq fy s (by omega),hc];exact nt n (ai s) q (by show q-(s.p+1)=n;omega) (by show s.p+1≤q;omega) h2 (fun i hi=>h3 i (by have:s.p+1≤i:=hi;omega)) h4
def vk (F:List Lf) (r:List Nd) (p:Nat) (b:Bool):Prop:=eV F (iG F) (⟨p,⟨1,0,0, -1⟩::r,0,0⟩,b)=eV F (iG F) (⟨0,[⟨1,0,0, -1⟩],0,0⟩,false)
theorem EG (F:List Lf):vk F [] 0 false:=rfl
theorem EH {F:List Lf} {r:List Nd} {p:Nat} {b:Bool} (h:vk F r p b) (hp:p≤F.length) (hs:sg F p=110):vk F r (p+1) b:=by
  unfold vk at h ⊢;rw[fI (cy F _) _ hp] at h;have hc:am F [110] ⟨p,⟨1,0,0, -1⟩::r,0,0⟩=true:=by rw[gS];show (sg F p==110)=true;rw[hs];rfl
  have e:bV F (iG F) (⟨p,⟨1,0,0, -1⟩::r,0,0⟩,b)=((⟨p+1,⟨1,0,0, -1⟩::r,0,0⟩,b),true):=by
    unfold bV;rw[if_pos hc];rfl
  rw[e] at h;exact h
theorem Dk {F:List Lf} {r:List Nd} {b:Bool}:∀(n p:Nat),vk F r p b→p+n≤F.length→(∀i,p≤i→i<p+n→sg F i=110)→vk F r (p+n) b
  | 0,p,h,_,_=>h
  | n+1,p,h,hp,hs=>by
    have:=Dk n (p+1) (EH h (by omega) (hs p (Nat.le_refl _) (by omega))) (by omega) (fun i h1 h2=>hs i (by omega) (by omega))
    rwa [show p+1+n=p+(n+1) by omega] at this
theorem F6 {F:List Lf} {r:List Nd} {p:Nat} {b:Bool} (h:vk F r p b) (hp:p<F.length) (hs:sg F p≠110) (hb:(!b&&bH F (eI p))=false):vk F (r++[⟨17,p,p+1,0⟩]) (p+1) false:=by
  unfold vk at h ⊢;rw[fI (cy F _) _ (Nat.le_of_lt hp)] at h;have hc:am F [110] ⟨p,⟨1,0,0, -1⟩::r,0,0⟩=false:=by rw[gS];exact beq_false_of_ne hs
  have e:bV F (iG F) (⟨p,⟨1,0,0, -1⟩::r,0,0⟩,b)=((⟨p+1,(⟨1,0,0, -1⟩::r)++[⟨17,p,p+1,0⟩],0,0⟩,false),true):=by
    unfold bV;rw[if_neg (by rw[hc];decide)];rw[if_neg (show ¬(!b&&bH F ⟨p,⟨1,0,0, -1⟩::r,0,0⟩)=true by rw[pP (F:=F) (s:=⟨p,⟨1,0,0, -1⟩::r,0,0⟩) rfl];show ¬(!b&&bH F (eI p))=true;rw[hb];decide),if_pos hp];congr 2;show ({ai _ with up:=(0:Int),l:=dh ((⟨1,0,0, -1⟩::r)++[⟨17,p,0,0⟩]) (⟨1,0,0, -1⟩::r).length (p+1)}:Ps)=_;rw[iq];rfl
  rw[e] at h;exact h
def EE (F:List Lf) (u:Nat) (l:List Nd) (p:Nat) (fin:Ps):Prop:=aZ F.length (fun s=>cR F (an 3 (bv F (ef F F.length)) s)) ⟨p,l,(u:Int),0⟩=fin
def nD (F:List Lf) (l:List Nd) (u p:Nat):List Nd:=l++(cK F p).l.map (om 0 l.length (u:Int))
theorem yV (F:List Lf) (l:List Nd) (u:Nat) {p:Nat} (hp:p≤F.length):an 3 (bv F (ef F F.length)) ⟨p,l,(u:Int),0⟩=⟨(cK F p).p,nD F l u p,(u:Int),0⟩:=by
  obtain⟨h1,h2,h3⟩:=sw F F.length (Nat.le_refl _) (s:=⟨p,l,(u:Int),0⟩) hp rfl;have h4:(an 3 (bv F (ef F F.length)) ⟨p,l,(u:Int),0⟩).up=(u:Int):=rfl;generalize an 3 (bv F (ef F F.length)) ⟨p,l,(u:Int),0⟩=x at *;obtain⟨a,b,c,d⟩:=x;simp only at h1 h2 h3 h4;rw[h1,h2,h3,h4];rfl
theorem GA {F:List Lf} {u p q:Nat} {l:List Nd} {fin:Ps} (h:EE F u l p fin) (hp:p≤F.length) (hs:cR F ⟨(cK F p).p,nD F l u p,(u:Int),0⟩=(⟨q,nD F l u p,(u:Int),0⟩,true)):EE F u (nD F l u p) q fin:=by
  unfold EE at h ⊢;rw[LC.eq (gr (cy F _)) _ hp,yV F l u hp,hs] at h;exact h
theorem Gl {F:List Lf} {u p q:Nat} {l:List Nd} {fin:Ps} (h:EE F u l p fin) (hp:p≤F.length) (hs:cR F ⟨(cK F p).p,nD F l u p,(u:Int),0⟩=(⟨q,nD F l u p,(u:Int),0⟩,false)):fin=⟨q,nD F l u p,(u:Int),0⟩:=by
  unfold EE at h;rw[LC.eq (gr (cy F _)) _ hp,yV F l u hp,hs] at h;exact h.symm
theorem ER {F:List Lf} {p q:Nat} {l:List Nd} {u:Int} (hs:sg F p=59∨sg F p=38) (hq:p+1≤q) (hF:q≤F.length) (hn:∀i,p+1≤i→i<q→sg F i=110) (hz:sg F q≠110):cR F ⟨p,l,u,0⟩=(⟨q,l,u,0⟩,bH F (eI q)):=by
  have hc:am F [59,38] ⟨p,l,u,0⟩=true:=by unfold am;rcases hs with h|h<;>rw[show (⟨p,l,u,0⟩:Ps).p=p from rfl,h]<;>decide
  have e:ac F (ai ⟨p,l,u,0⟩)=⟨q,l,u,0⟩:=nt _ (ai ⟨p,l,u,0⟩) q rfl hq hF hn hz;unfold cR;rw[if_pos hc,e,pP (F:=F) (s:=⟨q,l,u,0⟩) rfl]
theorem Gc {F:List Lf} {p q:Nat} {l:List Nd} {u:Int} (hs:sg F p=110) (hq:p≤q) (hF:q≤F.length) (hn:∀i,p≤i→i<q→sg F i=110) (hz:sg F q≠110):cR F ⟨p,l,u,0⟩=(⟨q,l,u,0⟩,bH F (eI q)):=by
  have hc0:am F [59,38] ⟨p,l,u,0⟩=false:=by unfold am;rw[show (⟨p,l,u,0⟩:Ps).p=p from rfl,hs];decide
  have hc:am F [110] ⟨p,l,u,0⟩=true:=by unfold am;rw[show (⟨p,l,u,0⟩:Ps).p=p from rfl,hs];decide
  have e:ac F ⟨p,l,u,0⟩=⟨q,l,u,0⟩:=nt _ ⟨p,l,u,0⟩ q rfl hq hF hn hz;unfold cR;rw[if_neg (by rw[hc0];decide),if_pos hc,e,pP (F:=F) (s:=⟨q,l,u,0⟩) rfl]
theorem Gb {F:List Lf} {p:Nat} {l:List Nd} {u:Int} (h1:sg F p≠59) (h2:sg F p≠38) (h3:sg F p≠110):cR F ⟨p,l,u,0⟩=(⟨p,l,u,0⟩,false):=by
  have hc0:am F [59,38] ⟨p,l,u,0⟩=false:=by unfold am;simp[h1,h2]
  have hc:am F [110] ⟨p,l,u,0⟩=false:=by unfold am;simp[h3]
  unfold cR;rw[if_neg (by rw[hc0];decide),if_neg (by rw[hc];decide)]
theorem FM {F:List Lf} {r m:List Nd} {p q:Nat} (h:vk F r p false) (hp:p≤F.length) (hs:sg F p≠110) (hb:bH F (eI p)=true)
    (hl:EE F (r.length+1) ((⟨1,0,0, -1⟩::r)++[⟨2,p,0,0⟩]) p ⟨q,((⟨1,0,0, -1⟩::r)++[⟨2,p,0,0⟩])++m,((r.length+1:Nat):Int),0⟩):vk F (r++⟨2,p,q,0⟩::m) q true:=by
  unfold vk at h ⊢;rw[fI (cy F _) _ hp] at h;have hc:am F [110] ⟨p,⟨1,0,0, -1⟩::r,0,0⟩=false:=by rw[gS];exact beq_false_of_ne hs
  have e:bV F (iG F) (⟨p,⟨1,0,0, -1⟩::r,0,0⟩,false)=((⟨q,(⟨1,0,0, -1⟩::r)++⟨2,p,q,0⟩::m,0,0⟩,true),true):=by
    unfold bV;rw[if_neg (by rw[hc];decide),if_pos (show (!false&&bH F ⟨p,⟨1,0,0, -1⟩::r,0,0⟩)=true by rw[pP (F:=F) (s:=⟨p,⟨1,0,0, -1⟩::r,0,0⟩) rfl];exact hb)];congr 2;show ({iG F ⟨p,(⟨1,0,0, -1⟩::r)++[⟨2,p,0,0⟩],((r.length+1:Nat):Int),0⟩ with up:=(0:Int),l:=dh (iG F ⟨p,(⟨1,0,0, -1⟩::r)++[⟨2,p,0,0⟩],((r.length+1:Nat):Int),0⟩).l (⟨1,0,0, -1⟩::r).length (iG F ⟨p,(⟨1,0,0, -1⟩::r)++[⟨2,p,0,0⟩],((r.length+1:Nat):Int),0⟩).p}:Ps)=_;have e2:iG F ⟨p,(⟨1,0,0, -1⟩::r)++[⟨2,p,0,0⟩],((r.length+1:Nat):Int),0⟩=⟨q,((⟨1,0,0, -1⟩::r)++[⟨2,p,0,0⟩])++m,((r.length+1:Nat):Int),0⟩:=hl;rw[e2,List.append_assoc];show (⟨q,dh ((⟨1,0,0, -1⟩::r)++⟨2,p,0,0⟩::m) (⟨1,0,0, -1⟩::r).length q,0,0⟩:Ps)=_;rw[iq]
  rw[e] at h;exact h
theorem F7 {F:List Lf} {r:List Nd} {b:Bool} (h:vk F r F.length b):(cE F).l=⟨1,0,F.length, -1⟩::r:=by
  unfold vk at h;rw[fI (cy F _) _ (Nat.le_refl _)] at h;have h0:sg F F.length=0:=by unfold sg;rw[List.getElem?_eq_none (Nat.le_refl _)]
  have hc:am F [110] ⟨F.length,⟨1,0,0, -1⟩::r,0,0⟩=false:=by rw[gS];show (sg F F.length==110)=false;rw[h0];rfl
  have hb:bH F ⟨F.length,⟨1,0,0, -1⟩::r,0,0⟩=false:=by
    cases hq:bH F ⟨F.length,⟨1,0,0, -1⟩::r,0,0⟩
    ·rfl
    ·have:=BE hq
     have:F.length<F.length:=this
     omega
  have e:bV F (iG F) (⟨F.length,⟨1,0,0, -1⟩::r,0,0⟩,b)=((⟨F.length,⟨1,0,0, -1⟩::r,0,0⟩,b),false):=by
    unfold bV;rw[if_neg (by rw[hc];decide),if_neg (by rw[hb];simp),if_neg (by exact Nat.lt_irrefl _)]
  rw[e,if_neg Bool.false_ne_true] at h;show dh (eV F (iG F) (⟨0,[⟨1,0,0, -1⟩],0,0⟩,false)).1.l 0 (eV F (iG F) (⟨0,[⟨1,0,0, -1⟩],0,0⟩,false)).1.p=_;rw[←h];rfl
end
end Go.Proofs.YtfagdpfgifgnoaaGreatDoor
set_option linter.unusedVariables false
set_option linter.unusedSimpArgs false
set_option maxRecDepth 100000
set_option maxHeartbeats 8000000
namespace Go.Proofs.YtfagdpfgifgnoaaGreatDoor
def Ay (L:List Nd) (i:Nat):Nat:=match L[i]? with|some x=>x.tt|none=>0
def Am (L:List Nd) (K:List Nat):Int→Int:=K.foldl (fun f i=>if sI L i<Ay L i then qO f (sI L i:Int) (i:Int) else f) (fun _=>0)
theorem EI (L:List Nd) (K:List Nat) (i:Nat):Am L (K++[i])=if sI L i<Ay L i then qO (Am L K) (sI L i:Int) (i:Int) else Am L K:=by unfold Am;rw[List.foldl_append];rfl
theorem wL (L:List Nd) (x:Int):∀(K:List Nat) (f:Int→Int),K.foldl (fun f i=>if sI L i<Ay L i then qO f (sI L i:Int) (i:Int) else f) f x=f x∨∃i∈K,(sI L i:Int)=x∧K.foldl (fun f i=>if sI L i<Ay L i then qO f (sI L i:Int) (i:Int) else f) f x=(i:Int)
  | [],f=>.inl rfl
  | a::K,f=>by
    rw[List.foldl_cons];rcases wL L x K (if sI L a<Ay L a then qO f (sI L a:Int) (a:Int) else f) with h|⟨i,h1,h2,h3⟩
    ·rw[h];by_cases hlt:sI L a<Ay L a
     ·rw[if_pos hlt];unfold qO;by_cases hx:(sI L a:Int)=x
      ·rw[if_pos hx];exact .inr ⟨a,by simp,hx,rfl⟩
      ·rw[if_neg hx];exact .inl rfl
     ·rw[if_neg hlt];exact .inl rfl
    ·exact .inr ⟨i,List.mem_cons_of_mem _ h1,h2,h3⟩
theorem wK (L:List Nd) (K:List Nat) (x:Int):Am L K x=0∨∃i∈K,(sI L i:Int)=x∧Am L K x=(i:Int):=wL L x K _
theorem FP {L:List Nd} {K:List Nat} {N:Nat} (h:∀i∈K,i<N) (x:Int):0≤Am L K x∧Am L K x≤(N:Int):=by
  rcases wK L K x with h1|⟨i,h1,_,h2⟩
  ·rw[h1];omega
  ·have:=h i h1;rw[h2];omega
def GR (L:List Nd) (f:Int→Int) (hd tl gl nl:Nat) (p:Nat):Bool:=
  (decide (0<f p)&&decide ((Ay L (f p).toNat:Int)≤(hd:Int)-2))||(!decide ((p:Int)<(nl:Int)-(tl:Int))&&decide (0<f ((p:Int)-((nl:Int)-(gl:Int)))))
theorem F8 (G:List Lf) {x:Int} (h:0<Am (cE G).l (jL (cE G).l (cE G).l.length) x):∃(i p:Nat),Am (cE G).l (jL (cE G).l (cE G).l.length) x=(i:Int)∧x=(p:Int)∧i<(cE G).l.length∧De G (cE G).l i p∧Ay (cE G).l i=(cK G p).p:=by
  rcases wK (cE G).l (jL (cE G).l (cE G).l.length) x with h0|⟨i,hi,h1,h2⟩
  ·omega
  ·obtain⟨hr,ht⟩:=List.mem_filter.1 hi;obtain⟨p,u,y,e1,e2,e3⟩:=Do G ht;have hs:=e3.sub;have hf:sI (cE G).l i=p:=by unfold sI;rw[e1];exact e2
   refine⟨i,p,h2,by rw[←h1,hf],List.mem_range.1 hr,hs,?_⟩;rcases hs.fst with h3|⟨z,h3,_,h5⟩
   ·rw[e1] at h3;cases h3
   ·unfold Ay;rw[h3];exact h5
end Go.Proofs.YtfagdpfgifgnoaaGreatDoor
