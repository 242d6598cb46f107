/- Of Nt29: what a node made upon it hangs on, and that separators make no nodes. -/
import Derived.Test.YtmclohkaiemnaaaGreatDoorPl13
import Derived.Test.YtmclohkaiemnaaaGreatDoorTo29
import Derived.Test.YtmclohkaiemnaaaGreatDoorIm24
set_option linter.unusedVariables false
set_option linter.unusedSimpArgs false
set_option maxRecDepth 100000
set_option maxHeartbeats 8000000
namespace Go.Proofs.YtmclohkaiemnaaaGreatDoor
section
open Go.RowKit
theorem Fo.ups {b:Nat} {u:Int} {a c:Nat} {l:List Nd} (h:Fo b u a c l):∀x∈l,x.up=u∨((b:Int)≤x.up∧x.up<((b+l.length:Nat):Int)):=by
  induction h with
  | nil _=>intro x hx;cases hx
  | @cons b u a c k x y ks r e1 e2 e3 e4 e5 ih1 ih2=>
    intro q hq;have hl:(⟨k,x,y,u⟩::(ks++r):List Nd).length=1+ks.length+r.length:=by simp;omega
    rw[hl];rcases bj.1 hq with rfl|hq
    ·exact .inl rfl
    ·rcases bM.1 hq with hq|hq
     ·rcases ih1 q hq with h|h
      ·exact .inr ⟨by omega,by omega⟩
      ·exact .inr ⟨by omega,by omega⟩
     ·rcases ih2 q hq with h|h
      ·exact .inl h
      ·exact .inr ⟨by omega,by omega⟩
section
variable {F:List Lf}
theorem BS:∀(m:Nat) (s:Ps),F.length-s.p=m→s.p≤F.length→(dW F s).l=s.l:=by
  intro m
  induction m using Nat.strongRecOn with
  | _ m ih=>
    intro s hm hs;unfold dW;rw[LC.eq i7 s hs];by_cases hc:ef F [110] s=true
    ·have h1:=er hc (by decide);simp only[hc,bP];have h2:=ih (F.length-(dY s).p) (by have:(dY s).p=s.p+1:=rfl;omega) (dY s) rfl (by have:(dY s).p=s.p+1:=rfl;omega);unfold dW at h2;exact h2
    ·simp[hc]
theorem Nh {s:Ps} (hs:s.p≤F.length):(gj F s).1.l=s.l:=by
  unfold gj;by_cases h1:ef F [59,38] s=true
  ·rw[aB h1];have h2:=er h1 (by decide);exact BS _ _ rfl (show s.p+1≤_ by omega)
  ·rw[aC h1];by_cases h3:ef F [110] s=true
   ·rw[aB h3];exact BS _ _ rfl hs
   ·rw[aC h3]
end
end
section
def kx (F:List Lf) (i:Nat):Option (Int×List UInt8):=(F[i]?).map fun x=>(x.kd,x.tx)
theorem K3 {F G:List Lf} {i j:Nat} (h:kx F i=kx G j):sg F i=sg G j∧iw F i=iw G j∧tx F i=tx G j:=by
  unfold kx at h;unfold sg iw tx
  cases hF:F[i]? with
  | none=>
    cases hG:G[j]? with
    | none=>exact⟨rfl,rfl,rfl⟩
    | some y=>rw[hF,hG] at h;cases h
  | some x=>
    cases hG:G[j]? with
    | none=>rw[hF,hG] at h;cases h
    | some y=>
      rw[hF,hG] at h;simp only[Option.map_some,dh,dy] at h;refine⟨?_,by simp only[h.1],h.2⟩;simp only;unfold sA;rw[h.1,h.2]
def Ib (F G:List Lf) (k a B:Nat):Prop:=∀i,a≤i→i<B→kx F (i+k)=kx G i
def pL (b:Nat) (u v:Int):Int:=if v<0 then u else v+(b:Int)
def lN (k b:Nat) (u:Int) (x:Nd):Nd:=⟨x.kd,x.fr+k,x.tt+k,pL b u x.up⟩
structure St (F G:List Lf) (k a b:Nat) (u:Int) (fuA fuB:Nat) (s t:Ps):Prop where
  p:s.p=t.p+k
  d:s.deep=t.deep
  u:s.up=pL b u t.up
  l:s.l.length=t.l.length+b
  pns:s.p≤F.length
  pnt:t.p≤G.length
  a:a≤t.p
  fs:F.length<s.p+fuA
  ft:G.length<t.p+fuB
structure Dw (F G:List Lf) (k b:Nat) (u:Int) (s t s2 t2:Ps):Prop where
  p:s2.p=t2.p+k
  d:s2.deep=t2.deep
  ups:s2.up=s.up
  upt:t2.up=t.up
  pns:s2.p≤F.length
  pnt:t2.p≤G.length
  m:t.p≤t2.p
  l:∃m,t2.l=t.l++m∧s2.l=s.l++m.map (lN k b u)
section
variable {F G:List Lf} {k a b B fuA fuB:Nat} {u:Int} {s t s1 t1 s2 t2:Ps}
theorem St.next2 (h:St F G k a b u fuA fuB s t) (hx:Dw F G k b u s t s2 t2):St F G k a b u fuA fuB s2 t2:=by
  obtain⟨m,h1,h2⟩:=hx.l
  have:=hx.m
  refine⟨hx.p,hx.d,by rw[hx.ups,hx.upt];exact h.u,by rw[h1,h2];simp;have:=h.l;omega,hx.pns,hx.pnt,aA h.a this,?_,?_⟩
  ·have:=h.fs;have:=h.p;have:=hx.p;omega
  ·have:=h.ft;omega
theorem Dw.refl (h:St F G k a b u fuA fuB s t):Dw F G k b u s t s t:=⟨h.p,h.d,rfl,rfl,h.pns,h.pnt,au _,[],by simp,by simp⟩
theorem Dw.trans (h:Dw F G k b u s t s1 t1) (h':Dw F G k b u s1 t1 s2 t2):Dw F G k b u s t s2 t2:=by
  obtain⟨m,h1,h2⟩:=h.l;obtain⟨m',h3,h4⟩:=h'.l;exact⟨h'.p,h'.d,h'.ups.trans h.ups,h'.upt.trans h.upt,h'.pns,h'.pnt,aA h.m h'.m,m++m',by rw[h3,h1,aW],by rw[h4,h2,bG,aW]⟩
def T (F G:List Lf) (k b B:Nat) (u:Int) (s t s2 t2:Ps):Prop:=t2.p+2≤B→Dw F G k b u s t s2 t2
def TC (F G:List Lf) (k b B:Nat) (u:Int) (s t:Ps) (r q:Ps×Bool):Prop:=q.1.p+2≤B→Dw F G k b u s t r.1 q.1∧r.2=q.2
theorem T.refl (h:St F G k a b u fuA fuB s t):T F G k b B u s t s t:=fun _=>Dw.refl h
theorem T.trans (h:T F G k b B u s t s1 t1) (hm:t1.p≤t2.p) (h':Dw F G k b u s t s1 t1→T F G k b B u s1 t1 s2 t2):T F G k b B u s t s2 t2:=fun hB=>by
  have h1:=h (by omega);exact h1.trans (h' h1 hB)
theorem T.seq {A:Nat} (hs:St F G k a b u fuA fuB s t) (h:T F G k b B u s t s1 t1) (hg:Gd G.length A t1 t2) (h':St F G k a b u fuA fuB s1 t1→T F G k b B u s1 t1 s2 t2):T F G k b B u s t s2 t2:=
  T.trans h hg.p fun hx=>h' (hs.next2 hx)
theorem LC.upp {N A:Nat} {r:Ps×Bool} (h:LC N A s r):s.p≤r.1.p:=by
  cases hq:r.2
  ·exact(h.2 hq).p
  ·exact(h.1 hq).1.p
theorem T.ite {c d:Bool} {x x' y y':Ps} (hm:t.p≤(if d=true then y else y').p) (hb:t.p+2≤B→c=d) (h:d=true→T F G k b B u s t x y) (h':d=false→T F G k b B u s t x' y'):T F G k b B u s t (if c=true then x else x') (if d=true then y else y'):=fun hB=>by
  obtain rfl:=hb (by omega)
  cases c
  ·rw[aC (by decide)] at hB ⊢;rw[aC (by decide)];exact h' rfl hB
  ·rw[aB rfl] at hB ⊢;rw[aB rfl];exact h rfl hB
theorem TC.ite {c d:Bool} {x x' y y':Ps×Bool} (hm:t.p≤(if d=true then y else y').1.p) (hb:t.p+2≤B→c=d) (h:d=true→TC F G k b B u s t x y) (h':d=false→TC F G k b B u s t x' y'):TC F G k b B u s t (if c=true then x else x') (if d=true then y else y'):=fun hB=>by
  obtain rfl:=hb (by omega)
  cases c
  ·rw[aC (by decide)] at hB ⊢;rw[aC (by decide)];exact h' rfl hB
  ·rw[aB rfl] at hB ⊢;rw[aB rfl];exact h rfl hB
theorem TC.mk {x y:Ps} {c:Bool} (h:T F G k b B u s t x y):TC F G k b B u s t (x,c) (y,c):=fun hB=>⟨h hB,rfl⟩
theorem sX (h:St F G k a b u fuA fuB s t) (hs:s.p<F.length) (ht:t.p<G.length):Dw F G k b u s t (dY s) (dY t):=
  ⟨by show s.p+1=t.p+1+k;rw[h.p];omega,h.d,rfl,rfl,hs,ht,bW _,[],by simp[dY],by simp[dY]⟩
theorem mI {kd:Nat} {f g:Ps→Ps} (h:St F G k a b u fuA fuB s t) (hf:∀s' t',St F G k a b u fuA fuB s' t'→s'.p=s.p→t'.p=t.p→T F G k b B u s' t' (f s') (g t')):T F G k b B u s t (eh kd f s) (eh kd g t):=fun hB=>by
  have hS:St F G k a b u fuA fuB {s with l:=s.l++[⟨kd,s.p,0,s.up⟩],up:=(s.l.length:Int)} {t with l:=t.l++[⟨kd,t.p,0,t.up⟩],up:=(t.l.length:Int)}:=
    ⟨h.p,h.d,by show ((s.l.length:Nat):Int)=pL b u ((t.l.length:Nat):Int);unfold pL;rw[aC (by omega),h.l];omega,by simp;have:=h.l;omega,h.pns,h.pnt,h.a,h.fs,h.ft⟩
  have hx:=hf _ _ hS rfl rfl hB;obtain⟨m,h1,h2⟩:=hx.l;refine⟨hx.p,hx.d,rfl,rfl,hx.pns,hx.pnt,hx.m,⟨kd,t.p,(g {t with l:=t.l++[⟨kd,t.p,0,t.up⟩],up:=(t.l.length:Int)}).p,t.up⟩::m,?_,?_⟩
  ·show ik (g _).l t.l.length _=_;rw[h1];show ik ((t.l++[_])++m) t.l.length _=_;rw[aW];exact lL t.l _ m _
  ·show ik (f _).l s.l.length _=_;rw[h2];show ik ((s.l++[_])++m.map (lN k b u)) s.l.length _=_;rw[aW];rw[show ([⟨kd,s.p,0,s.up⟩]:List Nd)++m.map (lN k b u)=⟨kd,s.p,0,s.up⟩::m.map (lN k b u) from rfl,lL];rw[cF];congr 2;unfold lN;simp only;rw[hx.p,h.p,h.u]
theorem D5 {kd:Nat} {f g:Ps→Ps} (h:St F G k a b u fuA fuB s t) (hf:∀s' t',St F G k a b u fuA fuB s' t'→s'.p=s.p→t'.p=t.p→T F G k b B u s' t' (f s') (g t')):T F G k b B u s t (jI kd f s) (jI kd g t):=fun hB=>by
  have hS:St F G k a b u fuA fuB {s with deep:=s.deep+1} {t with deep:=t.deep+1}:=⟨h.p,by show s.deep+1=t.deep+1;rw[h.d],h.u,h.l,h.pns,h.pnt,h.a,h.fs,h.ft⟩;have hx:=mI (kd:=kd) (B:=B) hS hf hB;exact⟨hx.p,by show _-1=_-1;rw[hx.d],hx.ups,hx.upt,hx.pns,hx.pnt,hx.m,hx.l⟩
theorem nu (h:St F G k a b u fuA fuB s t):T F G k b B u s t (fe s) (fe t):=mI h fun _ _ h _ _=>T.refl h
theorem Lz {kd:Nat} (h:St F G k a b u fuA fuB s t) (hs:s.p<F.length) (ht:t.p<G.length):T F G k b B u s t (eD kd s) (eD kd t):=mI h fun _ _ h e e' _=>sX h (by omega) (by omega)
theorem kU {c d:Ps→Ps×Bool} {A A':Nat} (hc:∀s,s.p≤F.length→LC F.length A s (c s)) (hd:∀t,t.p≤G.length→LC G.length A' t (d t)) (he:∀s t,St F G k a b u fuA fuB s t→TC F G k b B u s t (c s) (d t)) :
    ∀m s t,G.length-t.p=m→St F G k a b u fuA fuB s t→T F G k b B u s t (eV F.length c s) (eV G.length d t):=by
  intro m
  induction m using Nat.strongRecOn with
  | _ m ih=>
    intro s t hm h hB;rw[LC.eq hd t h.pnt] at hB ⊢;rw[LC.eq hc s h.pns]
    cases hq:(d t).2
    ·rw[hq,aC dk] at hB;obtain⟨h1,h2⟩:=he s t h hB;rw[h2,hq,aC dk,aC dk];exact h1
    ·rw[hq,aB rfl] at hB;have hg:=(hd t h.pnt).1 hq;have hl:=Gd.loop hd _ (d t).1 rfl hg.1.N;obtain⟨h1,h2⟩:=he s t h (by have:=hl.p;omega);rw[h2,hq,aB rfl,aB rfl];exact h1.trans (ih _ (by have:=hg.2;have:=hg.1.N;omega) _ _ rfl (h.next2 h1) hB)
variable (E:Ib F G k a B)
include E
theorem np (h:St F G k a b u fuA fuB s t) (hB:t.p+2≤B):sg F s.p=sg G t.p∧iw F s.p=iw G t.p∧tx F s.p=tx G t.p:=by
  rw[h.p];exact K3 (E t.p h.a (by omega))
theorem NY (h:St F G k a b u fuA fuB s t) (hB:t.p+2≤B):sg F (s.p+1)=sg G (t.p+1):=by
  rw[h.p,show t.p+k+1=t.p+1+k by omega]
  exact(K3 (E (t.p+1) (by have:=h.a;omega) (by omega))).1
theorem gN (cs:List UInt8) (h:St F G k a b u fuA fuB s t) (hB:t.p+2≤B):ef F cs s=ef G cs t:=by unfold ef;rw[(np E h hB).1]
theorem oO (h:St F G k a b u fuA fuB s t) (hB:t.p+2≤B):eS F s=eS G t:=by unfold eS;rw[(np E h hB).1,NY E h hB]
theorem qM (h:St F G k a b u fuA fuB s t) (hB:t.p+2≤B):gy F s=gy G t:=by unfold gy;rw[gN E _ h hB,h.d]
theorem Cm (h:St F G k a b u fuA fuB s t) (hB:t.p+2≤B):lr F s=lr G t:=by unfold lr;rw[(np E h hB).1,oO E h hB,qM E h hB]
theorem nZ (h:St F G k a b u fuA fuB s t) (hB:t.p+2≤B):eN F s=eN G t:=by unfold eN;rw[(np E h hB).1,Cm E h hB]
theorem Ku (h:St F G k a b u fuA fuB s t) (hB:t.p+2≤B):lD F s=lD G t:=by unfold lD;rw[(np E h hB).1,NY E h hB,(np E h hB).2.2,h.d]
theorem Hv (h:St F G k a b u fuA fuB s t) (hB:t.p+2≤B):gx F s=gx G t:=by unfold gx;rw[(np E h hB).1,(np E h hB).2.1]
theorem lI {cs:List UInt8} (h0:cs.contains 0=false) (h:St F G k a b u fuA fuB s t) (hd:ef G cs t=true):T F G k b B u s t (dY s) (dY t):=fun hB=>by
  have hB2:t.p+3≤B:=hB;exact sX h (er ((gN E cs h (by omega)).trans hd) h0) (er hd h0)
theorem tg {cs:List UInt8} (h0:cs.contains 0=false) (h:St F G k a b u fuA fuB s t):T F G k b B u s t (eG F cs s) (eG G cs t):=
  T.ite (fJ h0 h.pnt).p (gN E cs h) (fun hd=>lI E h0 h hd) (fun _=>T.refl h)
theorem o8 {c:UInt8} (h0:c≠0) (h:St F G k a b u fuA fuB s t):T F G k b B u s t (eE F c s) (eE G c t):=
  T.ite (fp h0 h.pnt).p (gN E [c] h) (fun hd=>lI E (by simpa using fun e=>h0 e.symm) h hd) (fun _=>nu h)
theorem oe {kd:Nat} (h:St F G k a b u fuA fuB s t) (hd:iw G t.p=true):T F G k b B u s t (eD kd s) (eD kd t):=fun hB=>by
  have hB2:t.p+3≤B:=hB;exact Lz h (fO ((np E h (by omega)).2.1.trans hd)) (fO hd) hB
theorem tf (h:St F G k a b u fuA fuB s t):T F G k b B u s t (eK F s) (eK G t):=
  T.ite (gK h.pnt).p (fun hB=>(np E h hB).2.1) (fun hd=>oe E h hd) (fun _=>nu h)
theorem kj (h:St F G k a b u fuA fuB s t):T F G k b B u s t (dW F s) (dW G t):=
  kU i7 i7 (fun s t h=>TC.ite (by split<;>simp[dY]) (gN E _ h) (fun hd=>TC.mk (lI E (by decide) h hd)) (fun _=>TC.mk (T.refl h))) _ s t rfl h
theorem vI (h:St F G k a b u fuA fuB s t):T F G k b B u s t (fH F s) (fH G t):=
  mI h fun _ _ h _ _=>T.trans (T.trans (tg E (by decide) h) (fJ (by decide) (fJ (by decide) h.pnt).N).p fun hx=>tg E (by decide) (h.next2 hx)) (gK (fJ (by decide) (fJ (by decide) h.pnt).N).N).p fun hx=>tf E (h.next2 hx)
theorem DZ (h:St F G k a b u fuA fuB s t):T F G k b B u s t (gH F s) (gH G t):=
  kU iV iV (fun s t h=>TC.ite (LC.upp (iV t h.pnt)) (oO E h) (fun _=>TC.mk (vI E h)) (fun _=>TC.mk (T.refl h))) _ s t rfl h
theorem Iy (h:St F G k a b u fuA fuB s t):T F G k b B u s t (ir F s) (ir G t):=
  kU jy jy (fun s t h=>TC.ite (LC.upp (jy t h.pnt)) (oO E h) (fun _=>TC.mk (vI E h)) (fun e=>TC.ite (by have:=LC.upp (jy t h.pnt);rwa [aC (by rw[e];decide)] at this) (fun hB=>(np E h hB).2.1) (fun hd=>TC.mk (oe E h hd)) (fun _=>TC.mk (T.refl h)))) _ s t rfl h
theorem Ly (h:St F G k a b u fuA fuB s t):T F G k b B u s t (fV F s) (fV G t):=by
  have h1:T F G k b B u s t _ _:=kU (B:=B) ib ib (fun s t h=>TC.ite (LC.upp (ib t h.pnt)) (oO E h) (fun _=>TC.mk (vI E h)) (fun e=>TC.ite (by have:=LC.upp (ib t h.pnt);rwa [aC (by rw[e];decide)] at this) (fun hB=>by rw[(np E h hB).2.1,(np E h hB).2.2]) (fun hd=>TC.mk (oe E h ((aR _ _).mp hd).1)) (fun _=>TC.mk (T.refl h)))) _ s t rfl h;have g1:=Gd.loop (N:=G.length) ib _ t rfl h.pnt;unfold fV;generalize eV G.length (fun s=>if eS G s=true then (fH G s,true) else if (iw G s.p&&kK (tx G s.p))=true then (eD 6 s,true) else (s,false)) t=t1 at h1 g1 ⊢;generalize eV F.length (fun s=>if eS F s=true then (fH F s,true) else if (iw F s.p&&kK (tx F s.p))=true then (eD 6 s,true) else (s,false)) s=s1 at h1 ⊢;have g2:Gd G.length 0 t1 (if iw G t1.p=true then ir G (eD 7 t1) else t1):=Gd.ite (fun hd=>(fR (fO hd)).2.2.trans (qz (fR (k:=7) (fO hd)).2.2.N)) (fun _=>Gd.refl g1.N);exact T.seq h h1 g2 fun h1=>T.ite g2.p (fun hB=>(np E h1 hB).2.1) (fun hd=>T.seq h1 (oe E h1 hd) (qz (fR (k:=7) (fO hd)).2.2.N) fun h2=>Iy E h2) (fun _=>T.refl h1)
variable {L M:Ps→Ps} (hL:GL F L) (hM:GL G M) (hLM:∀s t,St F G k a b u fuA fuB s t→T F G k b B u s t (L s) (M t))
include hM hLM
omit E hM in
theorem D6 {kd:Nat} (h:St F G k a b u fuA fuB s t):T F G k b B u s t (eh kd L s) (eh kd M t):=mI h fun _ _ h _ _=>hLM _ _ h
omit E hLM in
theorem yI (ht:t.p≤G.length):Gd G.length 4 t (if eN G t=true then eh 2 M t else fe t):=Gd.ite (fun _=>Gd.node0 (A:=3) fun r hr _=>hM r (by omega)) (fun _=>(gV ht).mono (by omega))
theorem vJ (h:St F G k a b u fuA fuB s t):T F G k b B u s t (eI F L s) (eI G M t):=
  T.seq h (kj E h) (yI hM (ej h.pnt).N) fun h1=>T.ite (yI hM h1.pnt).p (nZ E h1) (fun _=>D6 hLM h1) (fun _=>nu h1)
theorem Iw {c:UInt8} (h0:c≠0) (h:St F G k a b u fuA fuB s t):T F G k b B u s t (eE F c (eI F L s)) (eE G c (eI G M t)):=
  T.seq h (vJ E hM hLM h) (fp h0 (fy hM h.pnt).N) fun h1=>o8 E h0 h1
theorem KN (h:St F G k a b u fuA fuB s t):T F G k b B u s t (eI F L (eE F 116 (eI F L s))) (eI G M (eE G 116 (eI G M t))):=
  T.seq h (Iw E hM hLM (c:=116) (by decide) h) (fy hM (fp (by decide) (fy hM h.pnt).N).N) fun h1=>vJ E hM hLM h1
omit E hLM in
theorem Gb (ht:t.p≤G.length):Gd G.length 9 t (eI G M (eE G 116 (eI G M t))):=by
  have h1:=fy hM ht;have h2:=fp (F:=G) (c:=116) (by decide) h1.N
  exact(h1.trans h2).trans (fy hM h2.N)
include hL in
theorem LD (h:St F G k a b u fuA fuB s t):T F G k b B u s t (ki F L s) (ki G M t):=by
  have g0:=Gb hM h.pnt;have h1:∀h0:St F G k a b u fuA fuB _ _,T F G k b B u (eI F L (eE F 116 (eI F L s))) (eI G M (eE G 116 (eI G M t))) _ _:=fun h0=>kU (B:=B) (iZ hL) (iZ hM) (fun s t h=>TC.ite (LC.upp (iZ hM t h.pnt)) (gN E _ h) (fun hd=>TC.mk (T.seq h (lI E (by decide) h hd) (Gb hM (er hd (by decide))) fun h1=>KN E hM hLM h1)) (fun _=>TC.mk (T.refl h))) _ _ _ rfl h0
  have g1:=Gd.loop (N:=G.length) (iZ hM) _ _ rfl g0.N;have h2:=T.seq h (KN E hM hLM h) g1 h1;have g01:=g0.trans g1;unfold ki;generalize eV G.length (fun s=>if ef G [101] s=true then (eI G M (eE G 116 (eI G M (dY s))),true) else (s,false)) (eI G M (eE G 116 (eI G M t)))=t1 at h2 g01 ⊢;generalize eV F.length (fun s=>if ef F [101] s=true then (eI F L (eE F 116 (eI F L (dY s))),true) else (s,false)) (eI F L (eE F 116 (eI F L s)))=s1 at h2 ⊢;have g2:Gd G.length 4 t1 (if ef G [108] t1=true then eI G M (dY t1) else t1):=Gd.ite (fun hc=>by
    have h0:=er hc (by decide)
    exact(Gd.paid h0 (fy hM (Gd.next h0).1.N) (by omega)).1.mono (by omega)) (fun _=>(Gd.refl g01.N).mono (by omega))
  have h3:=T.seq h h2 g2 fun h1=>T.ite g2.p (gN E [108] h1) (fun hd=>T.seq h1 (lI E (by decide) h1 hd) (fy hM (er hd (by decide))) fun h2=>vJ E hM hLM h2) (fun _=>T.refl h1)
  exact T.seq h h3 (fp (by decide) g2.N) fun h4=>o8 E (by decide) h4
theorem M8 (h:St F G k a b u fuA fuB s t):T F G k b B u s t (vp F L s) (vp G M t):=
  T.seq h (o8 E (c:=100) (by decide) h) ((fy hM (fp (by decide) h.pnt).N).trans (fp (c:=103) (by decide) (fy hM (fp (by decide) h.pnt).N).N)) fun h1=>Iw E hM hLM (by decide) h1
omit hM hLM in
theorem Iv (h:St F G k a b u fuA fuB s t):T F G k b B u s t (jm F s) (jm G t):=
  kU ix ix (fun s t h=>TC.ite (LC.upp (ix t h.pnt)) (fun hB=>(np E h hB).2.1) (fun hd=>TC.mk (oe E h hd)) (fun _=>TC.mk (T.refl h))) _ s t rfl h
omit hM hLM E in
theorem AF (ht:t.p≤G.length):Gd G.length 1 t (if ef G [59] t=true then dW G (dY t) else if ef G [110] t=true then dW G t else fe t):=
  Gd.ite (fun hc=>((Gd.next (er hc (by decide))).1.trans (ej (er hc (by decide)))).mono (by omega)) (fun _=>Gd.ite (fun _=>(ej ht).mono (by omega)) (fun _=>gV ht))
omit hM hLM in
theorem l9 (h:St F G k a b u fuA fuB s t) {cs:List UInt8} (h0:cs.contains 0=false) (hd:ef G cs t=true):T F G k b B u s t (dW F (dY s)) (dW G (dY t)):=
  T.seq h (lI E h0 h hd) (ej (er hd h0)) fun h1=>kj E h1
omit hM hLM in
theorem Oq (h:St F G k a b u fuA fuB s t) (hd:ef G [107] t=true):T F G k b B u s t (uB F s) (uB G t):=by
  have g1:=yH (F:=G) (s:=dY t) (er hd (by decide));refine T.seq h (T.seq h (lI E (by decide) h hd) g1 fun h1=>Iv E h1) (AF g1.N) fun h1=>T.ite (AF h1.pnt).p (gN E _ h1) (fun hd=>l9 E h1 (by decide) hd) (fun e=>T.ite ?_ (gN E _ h1) (fun _=>kj E h1) (fun _=>nu h1))
  have:=(AF h1.pnt).p
  rwa [aC (by rw[e];decide)] at this
theorem LB (h:St F G k a b u fuA fuB s t):T F G k b B u s t (gR F L s) (gR G M t):=by
  have g1:Gd G.length 1 t (if (iw G t.p&&iC (tx G t.p))=true then eD 7 t else fe t):=Gd.ite (fun hc=>(fR (fO ((aR _ _).mp hc).1)).1) (fun _=>gV h.pnt);have h1:T F G k b B u s t (if (iw F s.p&&iC (tx F s.p))=true then eD 7 s else fe s) (if (iw G t.p&&iC (tx G t.p))=true then eD 7 t else fe t):=T.ite g1.p (fun hB=>by rw[(np E h hB).2.1,(np E h hB).2.2]) (fun hd=>oe E h ((aR _ _).mp hd).1) (fun _=>nu h);unfold gR;generalize (if (iw G t.p&&iC (tx G t.p))=true then eD 7 t else fe t)=t1 at g1 h1 ⊢;generalize (if (iw F s.p&&iC (tx F s.p))=true then eD 7 s else fe s)=s1 at h1 ⊢;have g2:Gd G.length 1 t1 (if ef G [59] t1=true then dW G (dY t1) else if ef G [107] (dW G t1)=true then uB G (dW G t1) else dW G t1):=by
    have h3:=ej g1.N;refine Gd.ite (fun hc=>?_) (fun _=>Gd.ite (fun hc=>?_) (fun _=>h3.mono (by omega)))
    ·have h2:=(Gd.next (er hc (by decide))).1
     exact(h2.trans (ej h2.N)).mono (by omega)
    ·simpa using h3.trans (F9 (er hc (by decide)))
  have g3:ef G [59] t1=false→Gd G.length 1 (dW G t1) (if ef G [107] (dW G t1)=true then uB G (dW G t1) else dW G t1):=fun _=>Gd.ite (fun hc=>F9 (er hc (by decide))) (fun _=>(Gd.refl (ej g1.N).N).mono (by omega))
  have h2:=T.seq h h1 g2 fun h1=>T.ite g2.p (gN E [59] h1) (fun hd=>l9 E h1 (by decide) hd) (fun e=>T.seq h1 (kj E h1) (g3 e) fun h2=>T.ite (g3 e).p (gN E [107] h2) (fun hd=>Oq E h2 hd) (fun _=>T.refl h2))
  exact T.seq h h2 (B5 hM g2.N) fun h3=>M8 E hM hLM h3
theorem LA (h:St F G k a b u fuA fuB s t):T F G k b B u s t (eB F L s) (eB G M t):=by
  have a1:=fJ (F:=G) (cs:=[40]) (by decide) h.pnt;have a2:=gK a1.N;have a3:=Gd.loop ke _ _ rfl a2.N;have a4:=fp (F:=G) (c:=41) (by decide) a3.N;have a5:=ej a4.N;have b1:=T.seq h (tg E (cs:=[40]) (by decide) h) a2 fun h1=>tf E h1
  have b2:=T.seq h b1 a3 fun h1=>kU (B:=B) ke ke (fun s t h=>TC.ite (LC.upp (ke t h.pnt)) (gN E _ h) (fun hd=>TC.mk (T.seq h (lI E (by decide) h hd) (gK (er hd (by decide))) fun h1=>tf E h1)) (fun _=>TC.mk (T.refl h))) _ _ _ rfl h1
  have b3:=T.seq h b2 a4 fun h1=>o8 E (c:=41) (by decide) h1
  have b4:=T.seq h b3 a5 fun h1=>kj E h1
  have a6:Gd G.length 4 (dW G (eE G 41 (eV G.length (fun s=>if ef G [124] s=true then (eK G (dY s),true) else (s,false)) (eK G (eG G [40] t))))) (eB G M t):=Gd.ite (fun _=>Gd.node0 (A:=3) fun r hr _=>hM r (by have:=a5.N;omega)) (fun _=>(Gd.refl a5.N).mono (by omega));exact T.seq h b4 a6 fun h1=>T.ite a6.p (nZ E h1) (fun _=>D6 hLM h1) (fun _=>T.refl h1)
include hL in
theorem IA (h:St F G k a b u fuA fuB s t):T F G k b B u s t (ji F L s) (ji G M t):=by
  have a1:=gK h.pnt;have a2:=ej a1.N;have a3:=fp (F:=G) (c:=107) (by decide) a2.N;have a4:=ej a3.N;have a5:=Gd.loop (gW hM) _ _ rfl a4.N;have b1:=T.seq h (tf E h) a2 fun h1=>kj E h1
  have b2:=T.seq h b1 a3 fun h1=>o8 E (c:=107) (by decide) h1
  have b3:=T.seq h b2 a4 fun h1=>kj E h1
  have b4:=T.seq h b3 a5 fun h1=>kU (B:=B) (gW hL) (gW hM) (fun s t h=>TC.ite (LC.upp (gW hM t h.pnt)) (Hv E h) (fun hd=>by
    have c1:=LC.upp (gW hM t h.pnt);rw[aB hd] at c1;have n1:=(oF hM hd).1;have h1:T F G k b B u s t (eh 15 (eB F L) s) (eh 15 (eB G M) t):=mI h fun _ _ h _ _=>LA E hM hLM h
    intro hB;have m1:(eh 15 (eB G M) t).p≤(if ef G [121] (eh 15 (eB G M) t)=true then (dW G (dY (eh 15 (eB G M) t)),true) else (eh 15 (eB G M) t,false)).1.p:=by
      split
      ·rename_i hc;exact aA (bW _) (ej (s:=dY (eh 15 (eB G M) t)) (er hc (by decide))).p
      ·exact au _
    have x1:=h1 (by omega);have h2:=h.next2 x1;obtain⟨x2,e2⟩:=TC.ite (B:=B) (F:=F) (G:=G) (k:=k) (b:=b) (u:=u) m1 (gN E [121] h2) (fun hd=>TC.mk (l9 E h2 (by decide) hd)) (fun _=>TC.mk (T.refl h2)) hB;exact⟨x1.trans x2,e2⟩) (fun _=>TC.mk (T.refl h))) _ _ _ rfl h1
  exact T.seq h b4 (fp (by decide) a5.N) fun h1=>o8 E (by decide) h1
include hL in
theorem M7 (c:UInt8) (h:St F G k a b u fuA fuB s t):T F G k b B u s t (lC F L c s) (lC G M c t):=by
  unfold lC;by_cases e:c=40
  ·rw[aB e,aB e];exact Iw E hM hLM (by decide) h
  rw[aC e,aC e];by_cases e:c=105
  ·rw[aB e,aB e];exact LD E hL hM hLM h
  rw[aC e,aC e];by_cases e:c=119
  ·rw[aB e,aB e];exact T.seq h (vJ E hM hLM h) (B5 hM (fy hM h.pnt).N) fun h1=>M8 E hM hLM h1
  rw[aC e,aC e];by_cases e:c=114
  ·rw[aB e,aB e];exact LB E hM hLM h
  rw[aC e,aC e];by_cases e:c=99
  ·rw[aB e,aB e];exact IA E hL hM hLM h
  rw[aC e,aC e];exact Iw E hM hLM (by decide) h
end
section
variable {F G:List Lf} {k a b B fuA fuB:Nat} {u:Int} {s t s1 t1 s2 t2:Ps}
theorem Nf (h:St F G k a b u (fuA+1) (fuB+1) s t) (hs:s.p<F.length) (ht:t.p<G.length):St F G k a b u fuA fuB (dY s) (dY t):=by
  have h1:=h.next2 (sX h hs ht);have e1:(dY s).p=s.p+1:=rfl;have e2:(dY t).p=t.p+1:=rfl;have a1:=h.fs;have a2:=h.ft;exact⟨h1.p,h1.d,h1.u,h1.l,h1.pns,h1.pnt,h1.a,by omega,by omega⟩
variable (E:Ib F G k a B) {L M:Ps→Ps} (hL:GL F L) (hM:GL G M) (hLM:∀s t,St F G k a b u fuA fuB s t→T F G k b B u s t (L s) (M t))
include E hL hM hLM
theorem D7 (h:St F G k a b u (fuA+1) (fuB+1) s t) (hd:gy G t=true):T F G k b B u s t (g9 F L s) (g9 G M t):=fun hB=>by
  have hp:=(qB hM (iP hd)).2;have e:=(np E h (by omega)).1;have hs:=iP ((qM E h (by omega)).trans hd);have ht:=iP hd;unfold g9 at hB ⊢;rw[e];refine D5 h (fun s' t' h' e1 e2=>?_) hB;have h1:=Nf h' (by omega) (by omega);have g1:=l6 hM (sg G t.p) h1.pnt;exact T.trans (fun _=>sX h' (by omega) (by omega)) (g1.trans (mz g1.N)).p fun _=>T.seq h1 (M7 E hL hM hLM _ h1) (mz g1.N) fun h2=>DZ E h2
theorem M9 (h:St F G k a b u (fuA+1) (fuB+1) s t):T F G k b B u s t (lm F L s) (lm G M t):=by
  have a1:=gK h.pnt;have a2:=fJ (F:=G) (cs:=[40]) (by decide) a1.N;have a3:=fp (F:=G) (c:=41) (by decide) a2.N;have a4:=ej a3.N;have b1:=T.seq h (tf E h) a2 fun h1=>tg E (cs:=[40]) (by decide) h1
  have b2:=T.seq h b1 a3 fun h1=>o8 E (c:=41) (by decide) h1
  have b3:=T.seq h b2 a4 fun h1=>kj E h1
  have a5:Gd G.length 1 (dW G (eE G 41 (eG G [40] (eK G t)))) (lm G M t):=Gd.ite (fun hc=>(qB hM (iP hc)).1.mono (by omega)) (fun _=>gV a4.N);exact T.seq h b3 a5 fun h1=>T.ite a5.p (qM E h1) (fun hd=>D7 E hL hM hLM h1 hd) (fun _=>nu h1)
theorem KM (h:St F G k a b u (fuA+1) (fuB+1) s t):T F G k b B u s t (iL F L s) (iL G M t):=by
  have g:=(nO hM h.pnt).p;refine T.ite g (qM E h) (fun hd=>D7 E hL hM hLM h hd) (fun e=>?_);unfold iL at g;rw[aC (by rw[e];decide)] at g;refine T.ite g (Ku E h) (fun hd=>D5 h fun s' t' h' e1 e2=>M9 E hL hM hLM h') (fun e=>?_);rw[aC (by rw[e];decide)] at g;exact T.ite g (Cm E h) (fun _=>mI h fun _ _ h _ _=>Ly E h) (fun _=>nu h)
theorem Iz (h:St F G k a b u (fuA+1) (fuB+1) s t):T F G k b B u s t (jo F L s) (jo G M t):=by
  have a1:=fJ (F:=G) (cs:=[33]) (by decide) h.pnt;have a2:=nO hM a1.N;have a3:=Gd.loop (jl hM) _ _ rfl a2.N;exact T.seq h (T.seq h (tg E (cs:=[33]) (by decide) h) a2 fun h1=>KM E hL hM hLM h1) a3 fun h1=>kU (B:=B) (jl hL) (jl hM) (fun s t h=>TC.ite (LC.upp (jl hM t h.pnt)) (gN E _ h) (fun hd=>TC.mk (T.seq h (l9 E h (by decide) hd) (nO hM (ej (s:=dY t) (er hd (by decide))).N) fun h1=>KM E hL hM hLM h1)) (fun _=>TC.mk (T.refl h))) _ _ _ rfl h1
theorem KL (h:St F G k a b u (fuA+1) (fuB+1) s t):T F G k b B u s t (jA F L s) (jA G M t):=
  T.ite (nN hM h.pnt).p (nZ E h) (fun _=>mI h fun _ _ h _ _=>Iz E hL hM hLM h) (fun _=>nu h)
theorem Na (h:St F G k a b u (fuA+1) (fuB+1) s t):T F G k b B u s t (eW F L s) (eW G M t):=by
  have a1:=nN hM h.pnt;have a2:=Gd.loop (ng hM) _ _ rfl a1.N;exact T.seq h (KL E hL hM hLM h) a2 fun h1=>kU (B:=B) (ng hL) (ng hM) (fun s t h=>TC.ite (LC.upp (ng hM t h.pnt)) (gN E _ h) (fun hd=>TC.mk (T.seq h (l9 E h (by decide) hd) (nN hM (ej (s:=dY t) (er hd (by decide))).N) fun h1=>KL E hL hM hLM h1)) (fun _=>TC.mk (T.refl h))) _ _ _ rfl h1
theorem zH (h:St F G k a b u (fuA+1) (fuB+1) s t):T F G k b B u s t (eh 3 (eW F L) s) (eh 3 (eW G M) t):=mI h fun _ _ h _ _=>Na E hL hM hLM h
omit hL hM hLM in
theorem M5 (h:St F G k a b u fuA fuB s t) (hm:t.p≤(gj G t).1.p):TC F G k b B u s t (gj F s) (gj G t):=by
  refine TC.ite hm (gN E _ h) (fun hd hB=>?_) (fun e=>TC.ite (by unfold gj at hm;rwa [aC (by rw[e];decide)] at hm) (gN E _ h) (fun hd hB=>?_) (fun _=>TC.mk (T.refl h)))
  ·have x:=l9 E h (by decide) hd hB;exact⟨x,nZ E (h.next2 x) hB⟩
  ·have x:=kj E h hB;exact⟨x,nZ E (h.next2 x) hB⟩
omit E hL hM hLM in
theorem Mm (ht:t.p≤G.length):t.p≤(gj G t).1.p∧(gj G t).1.p≤G.length:=by
  unfold gj;split
  ·rename_i hd
   have:=ej (F:=G) (s:=dY t) (er hd (by decide))
   exact⟨aA (bW _) this.p,this.N⟩
  ·split
   ·exact⟨(ej ht).p,(ej ht).N⟩
   ·exact⟨au _,ht⟩
theorem M6 (h:St F G k a b u (fuA+1) (fuB+1) s t):T F G k b B u s t (kw F L s) (kw G M t):=
  kU (jk hL) (jk hM) (fun s t h hB=>by
    have g:=Gd.node0 (k:=3) (s:=t) (f:=eW G M) (A:=2) (N:=G.length) fun r hr _=>lj hM (by have:=h.pnt;omega)
    have gs:=Mm g.N;have x:=zH E hL hM hLM h (by omega);obtain⟨y,e⟩:=M5 E (h.next2 x) gs.1 hB;exact⟨x.trans y,e⟩) _ s t rfl h
end
theorem zG {F G:List Lf} {k a b B:Nat} {u:Int} (E:Ib F G k a B):∀(fuA fuB:Nat) (s t:Ps),St F G k a b u fuA fuB s t→T F G k b B u s t (je F fuA s) (je G fuB t)
  | 0,fuB,s,t,h=>by have:=h.fs;have:=h.pns;omega
  | fuA+1,0,s,t,h=>by have:=h.ft;have:=h.pnt;omega
  | fuA+1,fuB+1,s,t,h=>M6 E (fU F fuA) (fU G fuB) (fun s t h=>zG E fuA fuB s t h) h
theorem Ke {F G:List Lf} {k a b B:Nat} {u:Int} (E:Ib F G k a B) {s t:Ps} (p:s.p=t.p+k) (d:s.deep=t.deep) (u1:s.up=pL b u t.up) (l:s.l.length=t.l.length+b) (n:s.p≤F.length) (hpt:t.p≤G.length) (ha:a≤t.p) :
    T F G k b B u s t (eh 3 (eW F (lz F)) s) (eh 3 (eW G (lz G)) t):=
  zH (fuA:=F.length+1) (fuB:=G.length+1) E (fU F _) (fU G _) (fun s t h=>zG E _ _ s t h) ⟨p,d,u1,l,n,hpt,ha,by omega,by omega⟩
theorem zc (F:List Lf) (n:Nat) (hn:F.length≤n) {s:Ps} (h:s.p≤F.length) (hd:s.deep=0) :
    (eh 3 (eW F (je F n)) s).l=s.l++(eO F s.p).l.map (lN 0 s.l.length s.up)∧(eh 3 (eW F (je F n)) s).p=(eO F s.p).p∧(eh 3 (eW F (je F n)) s).deep=0:=by
  have x:=zH (F:=F) (G:=F) (k:=0) (a:=0) (b:=s.l.length) (B:=(eO F s.p).p+2) (u:=s.up) (fuA:=n) (fuB:=F.length+1) (fun i _ _=>rfl) (fU F _) (fU F _) (fun s t h=>zG (fun i _ _=>rfl) _ _ s t h) (s:=s) (t:=gO s.p)
    ⟨rfl,hd,show s.up=pL s.l.length s.up (-1) by unfold pL;rw[aB (by decide)],by show _=0+s.l.length;omega,h,h,bq _,by omega,by omega⟩ (au _)
  obtain⟨m,h1,h2⟩:=x.l;have e:m=(eO F s.p).l:=by
    have h3:(eO F s.p).l=([]:List Nd)++m:=h1;rw[h3,cK]
  rw[e] at h2;exact⟨h2,x.p,x.d.trans (AG F h).dp⟩
theorem L9 {k:Nat} {x:Nd} (h : -1≤x.up):lN k 0 (-1) x=⟨x.kd,x.fr+k,x.tt+k,x.up⟩:=by
  unfold lN pL;congr 1;split<;>omega
theorem GR {F G:List Lf} {k a p B:Nat} (E:Ib F G k a B) (ha:a≤p) (hG:p≤G.length) (hF:p+k≤F.length) (hB:(eO G p).p+2≤B) :
    (eO F (p+k)).l=(eO G p).l.map (lN k 0 (-1))∧(eO F (p+k)).p=(eO G p).p+k:=by
  have x:=Ke (b:=0) (u := -1) E (s:=gO (p+k)) (t:=gO p) rfl rfl (by unfold pL;rfl) rfl hF hG ha hB;obtain⟨m,h1,h2⟩:=x.l;have h3:(eO G p).l=([]:List Nd)++m:=h1;have h4:(eO F (p+k)).l=([]:List Nd)++m.map (lN k 0 (-1)):=h2;rw[h3,h4];exact⟨rfl,x.p⟩
inductive uE (F:List Lf) (u:Nat):Nat→List Nd→List Nat→Prop
  | nil (b:Nat):uE F u b [] []
  | cons (b p:Nat) (m:List Nd) (cs:List Nat) (hp:p≤F.length) (h:uE F u (b+(eO F p).l.length) m cs):uE F u b ((eO F p).l.map (lN 0 b (u:Int))++m) (p::cs)
inductive oU (F:List Lf):Nat→List Nd→List Nat→Prop
  | nil (b:Nat):oU F b [] []
  | err (b f t:Nat) (r:List Nd) (cs:List Nat) (h:oU F (b+1) r cs):oU F b (⟨17,f,t,0⟩::r) cs
  | lst (b f t:Nat) (m r:List Nd) (cs ds:List Nat) (hm:uE F b (b+1) m cs) (h:oU F (b+1+m.length) r ds):oU F b (⟨2,f,t,0⟩::(m++r)) (cs++ds)
theorem uE.app {F:List Lf} {u b:Nat} {m:List Nd} {cs:List Nat} (h:uE F u b m cs):∀{p:Nat},p≤F.length→uE F u b (m++(eO F p).l.map (lN 0 (b+m.length) (u:Int))) (cs++[p]):=by
  induction h with
  | nil b=>intro p hp;simpa using uE.cons b p [] [] hp (uE.nil _)
  | cons b p m cs hp h ih=>
    intro q hq;have e:b+((eO F p).l.map (lN 0 b (u:Int))++m).length=b+(eO F p).l.length+m.length:=by simp;omega
    rw[e,aW];exact uE.cons b p _ _ hp (ih hq)
theorem oU.app {F:List Lf} {b:Nat} {m:List Nd} {cs:List Nat} (h:oU F b m cs):∀{r:List Nd} {ds:List Nat},oU F (b+m.length) r ds→oU F b (m++r) (cs++ds):=by
  induction h with
  | nil b=>intro r ds hr;exact hr
  | err b f t r cs h ih=>
    intro q ds hq;rw[bH];refine oU.err b f t _ _ (ih ?_);rw[aL] at hq
    rwa [show b+1+r.length=b+(r.length+1) by omega]
  | lst b f t m r cs es hm h ih=>
    intro q ds hq;rw[bH,aW,aW];refine oU.lst b f t m _ _ _ hm (ih ?_);rw[aL,aD] at hq
    rwa [show b+1+m.length+r.length=b+(m.length+r.length+1) by omega]
theorem El {F:List Lf} {s:Ps} (h:(gj F s).2=true):eN F (gj F s).1=true:=by
  unfold gj at h ⊢;by_cases h1:ef F [59,38] s=true
  ·rw[aB h1] at h ⊢;exact h
  ·rw[aC h1] at h ⊢;by_cases h3:ef F [110] s=true
   ·rw[aB h3] at h ⊢;exact h
   ·rw[aC h3] at h;cases h
theorem JD {F:List Lf} {n:Nat} (hn:F.length≤n):∀(m:Nat) (s:Ps),F.length-s.p=m→s.p≤F.length→s.deep=0→eN F s=true→∀u:Nat,s.up=(u:Int) →
    ∃r cs,(kw F (je F n) s).l=s.l++r∧uE F u s.l.length r cs∧∀p∈cs,eN F (gO p)=true:=by
  intro m
  induction m using Nat.strongRecOn with
  | _ m ih=>
    intro s hm hs hd hpb u hu;have hL:=fU F n;have pb:eN F (gO s.p)=true:=by
      obtain⟨p,l,v,d⟩:=s;obtain rfl:d=0:=hd;exact hpb
    obtain⟨e1,e2,e3⟩:=zc F n hn hs hd;have g:=Gd.node0 (k:=3) (s:=s) (f:=eW F (je F n)) (A:=2) (N:=F.length) fun r hr _=>lj hL (by omega)
    have hc:=jk hL s hs;have hsl:(gj F (eh 3 (eW F (je F n)) s)).1.l=(eh 3 (eW F (je F n)) s).l:=Nh g.N;unfold kw;rw[LC.eq (jk hL) s hs];have one:=(uE.nil (F:=F) (u:=u) s.l.length).app (p:=s.p) hs;rw[cK,cg,cQ] at one
    cases hq:(gj F (eh 3 (eW F (je F n)) s)).2
    ·rw[aC dk,hsl,e1,hu];exact⟨_,_,rfl,one,fun p hp=>by rw[dw.1 hp];exact pb⟩
    ·rw[aB rfl];have h1:=hc.1 hq;obtain⟨r,cs,h2,h3,h4⟩:=ih _ (by have:=h1.2;have:=h1.1.N;omega) (gj F (eh 3 (eW F (je F n)) s)).1 rfl h1.1.N (h1.1.dp.trans hd) (El hq) u (h1.1.up.trans hu);have h2:(eV F.length (fun s=>gj F (eh 3 (eW F (je F n)) s)) (gj F (eh 3 (eW F (je F n)) s)).1).l=_:=h2;rw[h2,hsl,e1,hu,aW];refine⟨_,s.p::cs,rfl,?_,fun p hp=>by
       rcases bj.1 hp with rfl|hp
       ·exact pb
       ·exact h4 p hp⟩
     rw[hsl,e1,aD,bE] at h3;exact uE.cons _ _ _ _ hs h3
theorem EI {F:List Lf} {n:Nat} (hn:F.length≤n):∀(m:Nat) (x:Ps×Bool),2*F.length+1-jb x=m→x.1.p≤F.length→x.1.deep=0→x.1.up=0 →
    ∃r cs,(jj F (je F (n+1)) x).1.l=x.1.l++r∧oU F x.1.l.length r cs∧∀p∈cs,eN F (gO p)=true:=by
  intro m
  induction m using Nat.strongRecOn with
  | _ m ih=>
    intro x hm hx hd hu;have hL:=fU F (n+1);rw[jV hL x hx];by_cases hc:(fM F (je F (n+1)) x).2=true
    ·have h1:=nD hL x hx hc;have h2:=ma h1.2.1;rw[aB hc];obtain⟨r,ds,e1,e2,k2⟩:=ih _ (by omega) _ rfl h1.2.1 (h1.2.2.1.dp.trans hd) (h1.2.2.1.up.trans hu);rw[e1];have key:∃q cs,(fM F (je F (n+1)) x).1.1.l=x.1.l++q∧oU F x.1.l.length q cs∧∀p∈cs,eN F (gO p)=true:=by
       obtain⟨s,b⟩:=x;replace hx:s.p≤F.length:=hx;unfold fM;by_cases h1:ef F [110] s=true
       ·simp only[h1,bP];exact⟨[],[],by simp[dY],oU.nil _,fun _ h=>by cases h⟩
       ·simp only[h1,bp,aH];by_cases h2:(!b&&eN F s)=true
        ·simp only[h2,bP];obtain⟨r,cs,e1,e2,k3⟩:=JD hn _ {s with l:=s.l++[⟨2,s.p,0,s.up⟩],up:=(s.l.length:Int)} rfl hx hd (show eN F s=true by simp only[aR] at h2;exact h2.2) s.l.length rfl;have e1:(je F (n+1) {s with l:=s.l++[⟨2,s.p,0,s.up⟩],up:=(s.l.length:Int)}).l=(s.l++[⟨2,s.p,0,s.up⟩])++r:=e1;refine⟨⟨2,s.p,(je F (n+1) {s with l:=s.l++[⟨2,s.p,0,s.up⟩],up:=(s.l.length:Int)}).p,0⟩::r,cs++[],?_,?_,by rw[bB];exact k3⟩
         ·show ik (je F (n+1) _).l s.l.length _=_;rw[e1,aW];have hu:s.up=0:=hu;rw[hu];exact lL s.l _ r _
         ·have e2:uE F s.l.length (s.l++[(⟨2,s.p,0,s.up⟩:Nd)]).length r cs:=e2;rw[aD] at e2
          have:=oU.lst (F:=F) s.l.length s.p (je F (n+1) {s with l:=s.l++[⟨2,s.p,0,s.up⟩],up:=(s.l.length:Int)}).p r [] cs [] e2 (oU.nil _)
          rwa [bB r] at this
        ·simp only[h2,bp,aH];by_cases h3:s.p<F.length
         ·simp only[h3,bP];refine⟨[⟨17,s.p,s.p+1,0⟩],[],?_,oU.err _ _ _ _ _ (oU.nil _),fun _ h=>by cases h⟩;show ik (s.l++[_]) s.l.length _=_;have hu:s.up=0:=hu;rw[hu];exact lL s.l _ [] _
         ·simp only[h3,bp];exact⟨[],[],by simp,oU.nil _,fun _ h=>by cases h⟩
     obtain⟨q,cs,e3,e4,k4⟩:=key;rw[e3,aW];refine⟨_,cs++ds,rfl,e4.app ?_,fun p hp=>by
       rcases bM.1 hp with hp|hp
       ·exact k4 p hp
       ·exact k2 p hp⟩
     rw[e3,aD] at e2;exact e2
    ·rw[aC hc];obtain⟨s,b⟩:=x;replace hx:s.p≤F.length:=hx;unfold fM at hc ⊢;by_cases h1:ef F [110] s=true
     ·simp[h1] at hc
     ·simp only[h1,bp,aH] at hc ⊢;by_cases h2:(!b&&eN F s)=true
      ·simp[h2] at hc
      ·simp only[h2,bp,aH] at hc ⊢;by_cases h3:s.p<F.length
       ·simp[h3] at hc
       ·simp only[h3,bp];exact⟨[],[],by simp,oU.nil _,fun _ h=>by cases h⟩
theorem xU (F:List Lf):∃r cs,(ei F).l=⟨1,0,F.length, -1⟩::r∧oU F 1 r cs∧∀p∈cs,eN F (gO p)=true:=by
  obtain⟨r,cs,e1,e2,k2⟩:=EI (F:=F) (n:=F.length) (au _) _ (({gO 0 with l:=(gO 0).l++[⟨1,(gO 0).p,0,(gO 0).up⟩],up:=((gO 0).l.length:Int)}:Ps),false) rfl (bq _) rfl rfl;refine⟨r,cs,?_,e2,k2⟩;show ik (jj F (lz F) _).1.l 0 _=_;rw[e1];have hp:=(tR F).2;have hp:(jj F (lz F) (({gO 0 with l:=(gO 0).l++[⟨1,(gO 0).p,0,(gO 0).up⟩],up:=((gO 0).l.length:Int)}:Ps),false)).1.p=F.length:=hp;show ik (⟨1,0,0, -1⟩::r) 0 (jj F (lz F) (({gO 0 with l:=(gO 0).l++[⟨1,(gO 0).p,0,(gO 0).up⟩],up:=((gO 0).l.length:Int)}:Ps),false)).1.p=_;rw[hp];rfl
theorem CU (F:List Lf):∃r cs,(ei F).l=⟨1,0,F.length, -1⟩::r∧oU F 1 r cs:=by
  obtain⟨r,cs,h1,h2,_⟩:=xU F;exact⟨r,cs,h1,h2⟩
theorem kI (F:List Lf) {p:Nat} (hp:p≤F.length):∃m,(eO F p).l=⟨3,p,(eO F p).p, -1⟩::m∧∀x∈m,0≤x.up∧x.up≤(m.length:Int):=by
  have hg:=lj (fU F (F.length+1)) (s:=({gO p with l:=(gO p).l++[⟨3,(gO p).p,0,(gO p).up⟩],up:=((gO p).l.length:Int)}:Ps)) hp;obtain⟨m,h1,h2⟩:=hg.f;refine⟨m,?_,fun x hx=>?_⟩
  ·show ik (eW F (lz F) _).l 0 _=_;rw[h1];rfl
  ·rcases h2.ups x hx with h|h
   ·have h:x.up=0:=h;omega
   ·have h:(1:Int)≤x.up∧x.up<((1+m.length:Nat):Int):=h;omega
structure NZ (F:List Lf) (L:List Nd) (i p u:Nat):Prop where
  ex:∃pre post,L=pre++((eO F p).l.map (lN 0 i (u:Int))++post)∧pre.length=i∧∀z,post[0]? = some z→z.up<(i:Int)
  p:p≤F.length
  u:1≤u∧u<i
theorem Km {F:List Lf} {u b:Nat} {m:List Nd} {cs:List Nat} (h:uE F u b m cs) (hu:1≤u∧u<b):∀(pre post:List Nd),pre.length=b→(∀z,post[0]? = some z→z.up≤(u:Int))→(∀(v:Nat) (y:Nd),(pre++(m++post))[v]? = some y→y.kd=2→y.up=0→v<b∨b+m.length≤v) →
    ∀(j:Nat) (x:Nd),m[j]? = some x→x.kd=3→(∃v:Nat,x.up=(v:Int)∧∃y,(pre++(m++post))[v]? = some y∧y.kd=2∧y.up=0)→∃p,x.fr=p∧NZ F (pre++(m++post)) (b+j) p u:=by
  induction h with
  | nil b=>intro pre post _ _ _ j x hx;simp at hx
  | cons b p m cs hp h ih=>
    intro pre post hpre hpost hno j x hx h3 hv;obtain⟨c,hc1,hc2⟩:=kI F hp;have hlen:((eO F p).l.map (lN 0 b (u:Int))).length=(eO F p).l.length:=bE _;have hhead:∀z,(m++post)[0]? = some z→z.up≤(u:Int):=fun z hz=>by
      cases h with
      | nil=>exact hpost z (by simpa using hz)
      | cons _ q m' _ hq _=>
        obtain⟨c',hc3,_⟩:=kI F hq;rw[hc3] at hz
        have:lN 0 (b+(eO F p).l.length) (u:Int) ⟨3,q,(eO F q).p, -1⟩=z:=by simpa using hz
        rw[←this];unfold lN pL;simp
    rcases bC j (eO F p).l.length with hj|hj
    ·rw[aU (by rw[hlen];exact hj),aV] at hx
     cases j with
     | zero=>
       rw[hc1] at hx;have hx:lN 0 b (u:Int) ⟨3,p,(eO F p).p, -1⟩=x:=by simpa using hx
       refine⟨p,by rw[←hx];rfl,⟨pre,m++post,by rw[aW];rfl,hpre,fun z hz=>?_⟩,hp,hu⟩
       have:=hhead z hz
       omega
     | succ j=>
       exfalso;rw[hc1,cD] at hx;obtain⟨y,hy,rfl⟩:=Option.map_eq_some_iff.1 hx;have h0:=hc2 y (aI hy);obtain⟨v,hv1,z,hz1,hz2,hz3⟩:=hv;have hv2:y.up+(b:Int)=(v:Int):=by
         rw[←hv1];show _=pL b u y.up;unfold pL;rw[aC (by omega)]
       have hcl:(eO F p).l.length=c.length+1:=by rw[hc1];rfl
       rcases hno v z hz1 hz2 hz3 with h4|h4
       ·omega
       ·rw[aD,hlen] at h4;omega
    ·rw[aP (by rw[hlen];exact hj),hlen] at hx;have e:pre++((eO F p).l.map (lN 0 b (u:Int))++m++post)=(pre++(eO F p).l.map (lN 0 b (u:Int)))++(m++post):=by simp
     rw[e] at hno hv ⊢;obtain⟨q,h4,h5⟩:=ih (by omega) (pre++(eO F p).l.map (lN 0 b (u:Int))) post (by rw[aD,hlen,hpre]) hpost (fun v y h1 h2 h3=>by
       have:=hno v y h1 h2 h3
       rw[aD,hlen] at this;rcases this with h6|h6
       ·exact .inl (by omega)
       ·exact .inr (by omega)) _ x hx h3 hv
     refine⟨q,h4,?_⟩
     rwa [show b+(eO F p).l.length+(j-(eO F p).l.length)=b+j by omega] at h5
theorem EK {F:List Lf} {b:Nat} {r:List Nd} {cs:List Nat} (h:oU F b r cs):∀z,r[0]? = some z→z.up=0:=by
  intro z hz
  cases h with
  | nil=>simp at hz
  | err b f t r _ h=>
    have:(⟨17,f,t,0⟩:Nd)=z:=by simpa using hz
    rw[←this]
  | lst b f t m r _ _ hm h=>
    have:(⟨2,f,t,0⟩:Nd)=z:=by simpa using hz
    rw[←this]
theorem GZ {F:List Lf} {u b:Nat} {m:List Nd} {cs:List Nat} (h:uE F u b m cs) (hu:1≤u∧u<b):∀x∈m,1≤x.up:=by
  induction h with
  | nil b=>intro x hx;cases hx
  | cons b p m cs hp h ih=>
    intro x hx;rcases bM.1 hx with hx|hx
    ·obtain⟨y,hy,rfl⟩:=bZ.1 hx;unfold lN pL;simp only;split<;>omega
    ·exact ih (by omega) x hx
theorem I5 {F:List Lf} {b:Nat} {r:List Nd} {cs:List Nat} (h:oU F b r cs) (hb:1≤b):∀(pre:List Nd),pre.length=b →
    ∀(j:Nat) (x:Nd),r[j]? = some x→x.kd=3→(∃v:Nat,x.up=(v:Int)∧∃y,(pre++r)[v]? = some y∧y.kd=2∧y.up=0)→∃p u,x.fr=p∧NZ F (pre++r) (b+j) p u:=by
  induction h with
  | nil b=>intro pre _ j x hx;simp at hx
  | err b f t r cs h ih=>
    intro pre hpre j x hx h3 hv
    cases j with
    | zero=>
      have:(⟨17,f,t,0⟩:Nd)=x:=by simpa using hx
      rw[←this] at h3;cases h3
    | succ j=>
      have e:pre++⟨17,f,t,0⟩::r=(pre++[⟨17,f,t,0⟩])++r:=by simp
      rw[e] at hv ⊢;obtain⟨p,u,h1,h2⟩:=ih (by omega) (pre++[⟨17,f,t,0⟩]) (by simp[hpre]) j x (by simpa using hx) h3 hv;rw[show b+1+j=b+(j+1) by omega] at h2;exact⟨p,u,h1,h2⟩
  | lst b f t m r cs ds hm h ih=>
    intro pre hpre j x hx h3 hv
    cases j with
    | zero=>
      have:(⟨2,f,t,0⟩:Nd)=x:=by simpa using hx
      rw[←this] at h3;cases h3
    | succ j=>
      rw[cD] at hx;have hup:=GZ hm ⟨hb,by omega⟩;rcases bC j m.length with hj|hj
      ·rw[aU hj] at hx;have e:pre++⟨2,f,t,0⟩::(m++r)=(pre++[⟨2,f,t,0⟩])++(m++r):=by simp
       rw[e] at hv ⊢;obtain⟨p,h1,h2⟩:=Km hm ⟨hb,by omega⟩ (pre++[⟨2,f,t,0⟩]) r (by simp[hpre]) (fun z hz=>by rw[EK h z hz];omega) (fun v y h1 h2 h4=>by
         have hl:(pre++[(⟨2,f,t,0⟩:Nd)]).length=b+1:=by simp[hpre]
         rcases bC v (b+1) with h5|h5
         ·exact .inl h5
         ·rcases bC v (b+1+m.length) with h6|h6
          ·exfalso;rw[aP (by omega),aU (by omega)] at h1
           have:=hup y (aI h1)
           omega
          ·exact .inr h6) j x hx h3 hv
       rw[show b+1+j=b+(j+1) by omega] at h2;exact⟨p,b,h1,h2⟩
      ·rw[aP hj] at hx;have e:pre++⟨2,f,t,0⟩::(m++r)=(pre++⟨2,f,t,0⟩::m)++r:=by simp
       rw[e] at hv ⊢;obtain⟨p,u,h1,h2⟩:=ih (by omega) (pre++⟨2,f,t,0⟩::m) (by simp[hpre];omega) (j-m.length) x hx h3 hv;rw[show b+1+m.length+(j-m.length)=b+(j+1) by omega] at h2;exact⟨p,u,h1,h2⟩
theorem DT (F:List Lf) {i:Nat} (h:ju (ei F).l i=true):∃p u x,(ei F).l[i]? = some x∧x.fr=p∧NZ F (ei F).l i p u:=by
  obtain⟨r,cs,hr,hp⟩:=CU F;unfold ju at h;split at h
  ·rename_i x hx;simp only[aR,bA,bT] at h;obtain⟨⟨⟨h3,h1⟩,h2⟩,h4⟩:=h;unfold te at h4;split at h4
   ·rename_i y hy;simp only[aR,bA] at h4;rw[hr] at hx hy ⊢
    cases i with
    | zero=>
      have:(⟨1,0,F.length, -1⟩:Nd)=x:=by simpa using hx
      rw[←this] at h3;cases h3
    | succ i=>
      obtain⟨p,u,e1,e2⟩:=I5 hp (au _) [⟨1,0,F.length, -1⟩] rfl i x (by simpa using hx) h3 ⟨x.up.toNat,by omega,y,hy,h4.1,h4.2⟩;rw[Nat.add_comm] at e2;exact⟨p,u,x,hx,e1,e2⟩
   ·cases h4
  ·cases h
structure vz (F:List Lf) (L:List Nd) (i p:Nat):Prop where
  le:i+(eO F p).l.length≤L.length
  pos:0<(eO F p).l.length
  pl:p≤F.length
  fst:L[i]? = none∨∃y,L[i]? = some y∧y.fr=p∧y.tt=(eO F p).p
  row:∀(j:Nat) (x:Nd),(eO F p).l[j]? = some x→∃y,L[i+j]? = some y∧y.kd=x.kd∧y.fr=x.fr∧y.tt=x.tt∧(0<j→0≤x.up∧y.up=x.up+(i:Int))∧(j=0→x.up = -1)
  nxt:∀z,L[i+(eO F p).l.length]? = some z→z.up<(i:Int)
theorem NZ.sub {F:List Lf} {L:List Nd} {i p u:Nat} (h:NZ F L i p u):vz F L i p:=by
  obtain⟨pre,post,e,hp,hn⟩:=h.ex;obtain⟨c,hc1,hc2⟩:=kI F h.p;have hcl:(eO F p).l.length=c.length+1:=by rw[hc1];rfl
  have hlen:((eO F p).l.map (lN 0 i (u:Int))).length=(eO F p).l.length:=bE _;have hrow:∀(j:Nat) (x:Nd),(eO F p).l[j]? = some x→L[i+j]? = some (lN 0 i (u:Int) x):=fun j x hx=>by
    have hj:=(az.1 hx).1;rw[e,aP (by omega),hp,dI,aU (by rw[hlen];exact hj),aV,hx];rfl
  refine⟨?_,by omega,h.p,.inr ⟨_,hrow 0 _ (by rw[hc1];rfl),rfl,rfl⟩,fun j x hx=>⟨_,hrow j x hx,rfl,rfl,rfl,fun hj=>?_,fun hj=>?_⟩,fun z hz=>?_⟩
  ·rw[e];simp;omega
  ·obtain⟨j,rfl⟩:∃k,j=k+1:=⟨j-1,by omega⟩;rw[hc1,cD] at hx
   have:=hc2 x (aI hx)
   refine⟨this.1,?_⟩;show pL i u x.up=_;unfold pL;rw[aC (by omega)]
  ·subst hj;rw[hc1] at hx
   have:(⟨3,p,(eO F p).p, -1⟩:Nd)=x:=by simpa using hx
   rw[←this]
  ·rw[e,aP (by omega),hp,dI,aP (by rw[hlen];exact au _),hlen,dB] at hz;exact hn z hz
def N7 (R S:List Nd) (by_:Int):Prop:=R.length=S.length∧∀(j:Nat) (x y:Nd),R[j]? = some x→S[j]? = some y→y.kd=x.kd∧(y.fr:Int)=(x.fr:Int)+by_∧(y.tt:Int)=(x.tt:Int)+by_∧y.up=x.up
theorem GN {F:List Lf} {p:Nat} (hp:p≤F.length):∀x∈(eO F p).l, -1≤x.up:=fun x hx=>by
  obtain⟨c,hc1,hc2⟩:=kI F hp;rw[hc1] at hx;rcases bj.1 hx with rfl|hx
  ·exact Int.le_refl _
  ·have:=hc2 x hx;omega
theorem Ap {F G:List Lf} {k a p B:Nat} (E:Ib F G k a B) (ha:a≤p) (hG:p≤G.length) (hF:p+k≤F.length) (hB:(eO G p).p+2≤B):N7 (eO G p).l (eO F (p+k)).l k∧(eO F (p+k)).p=(eO G p).p+k:=by
  obtain⟨h1,h2⟩:=GR E ha hG hF hB;refine⟨⟨by rw[h1];simp,fun j x y hx hy=>?_⟩,h2⟩;rw[h1,aV,hx] at hy;have hy:lN k 0 (-1) x=y:=by simpa using hy
  rw[←hy,L9 (GN hG x (aI hx))];refine⟨rfl,?_,?_,rfl⟩
  ·show ((x.fr+k:Nat):Int)=_;omega
  ·show ((x.tt+k:Nat):Int)=_;omega
theorem Jz {F G:List Lf} {k a p B:Nat} (E:Ib F G k a B) (ha:a≤p) (hG:p≤G.length) (hF:p+k≤F.length) (hB:(eO G p).p+2≤B):N7 (eO F (p+k)).l (eO G p).l (-(k:Int))∧(eO F (p+k)).p=(eO G p).p+k:=by
  obtain⟨⟨h1,h2⟩,h3⟩:=Ap E ha hG hF hB;refine⟨⟨h1.symm,fun j x y hx hy=>?_⟩,h3⟩
  have:=h2 j y x hy hx
  refine⟨this.1.symm,by omega,by omega,this.2.2.2.symm⟩
def nj (L:List Nd) (i:Nat):Nat:=match L[i]? with|some x=>x.fr|none=>0
theorem G0 {F:List Lf} {u b:Nat} {m:List Nd} {cs:List Nat} (h:uE F u b m cs) (hu:1≤u∧u<b):∀(pre post:List Nd),pre.length=b→(∃y,(pre++(m++post))[u]? = some y∧y.kd=2∧y.up=0) →
    (∀(v:Nat) (y:Nd),(pre++(m++post))[v]? = some y→y.kd=2→y.up=0→v<b∨b+m.length≤v)→((List.range' b m.length).filter (ju (pre++(m++post)))).map (nj (pre++(m++post)))=cs:=by
  induction h with
  | nil b=>intro pre post _ _ _;rfl
  | cons b p m cs hp h ih=>
    intro pre post hpre hy hno;obtain⟨c,hc1,hc2⟩:=kI F hp;have hlen:((eO F p).l.map (lN 0 b (u:Int))).length=c.length+1:=by rw[bE,hc1];rfl
    have e:pre++((eO F p).l.map (lN 0 b (u:Int))++m++post)=(pre++(eO F p).l.map (lN 0 b (u:Int)))++(m++post):=by simp
    have hr:List.range' b ((eO F p).l.map (lN 0 b (u:Int))++m).length=(b::List.range' (b+1) c.length)++List.range' (b+(c.length+1)) m.length:=by
      rw[aD,hlen,←List.range'_append_1,List.range'_succ]
    have ih2:=ih (by omega) (pre++(eO F p).l.map (lN 0 b (u:Int))) post (by rw[aD,hlen,hpre,hc1];rfl) (by rw[←e];exact hy) (fun v y h1 h2 h3=>by
      rw[←e] at h1
      have:=hno v y h1 h2 h3
      rw[aD,hlen] at this;have hcl:(eO F p).l.length=c.length+1:=by rw[hc1];rfl
      omega)
    rw[←e] at ih2;rw[hr,List.filter_append,bG];have hcl:(eO F p).l.length=c.length+1:=by rw[hc1];rfl
    rw[hcl] at ih2;rw[ih2];have hrow:∀(j:Nat) (x:Nd),(eO F p).l[j]? = some x→(pre++((eO F p).l.map (lN 0 b (u:Int))++m++post))[b+j]? = some (lN 0 b (u:Int) x):=fun j x hx=>by
      have hj:=(az.1 hx).1;rw[e,aW,aP (by omega),hpre,dI,aU (by rw[hlen];omega),aV,hx];rfl
    generalize pre++((eO F p).l.map (lN 0 b (u:Int))++m++post)=L at *;have hb:=hrow 0 _ (by rw[hc1];rfl);rw[cQ] at hb;have hum:pL b (u:Int) (-1)=(u:Int):=by unfold pL;rw[aB (by decide)]
    have ht:ju L b=true:=by
      obtain⟨y,h1,h2,h3⟩:=hy;have hul:=(az.1 h1).1;rw[od hb];show ((3:Nat)==3&&decide (1≤pL b (u:Int) (-1))&&decide (pL b (u:Int) (-1)<(L.length:Int))&&te L (lN 0 b (u:Int) ⟨3,p,(eO F p).p, -1⟩))=true;rw[hum];have hX:te L (lN 0 b (u:Int) ⟨3,p,(eO F p).p, -1⟩)=true:=by
        unfold te;rw[show (lN 0 b (u:Int) ⟨3,p,(eO F p).p, -1⟩).up=(u:Int) from hum,bJ,h1];simp only[h2,h3];rfl
      rw[hX,aG (by omega),aG (by omega)];rfl
    have hnil:(List.range' (b+1) c.length).filter (ju L)=[]:=by
      rw[List.filter_eq_nil_iff];intro i hi;rw[List.mem_range'_1] at hi;obtain⟨j,rfl⟩:∃j,i=b+(j+1):=⟨i-b-1,by omega⟩;obtain⟨x,hx⟩:∃x,c[j]? = some x:=⟨_,ax (by omega)⟩;have hxl:=hrow (j+1) x (by rw[hc1,cD];exact hx);have hx0:=hc2 x (aI hx);intro hT;rw[od hxl] at hT;simp only[aR] at hT;have hX:=hT.2;unfold te at hX;have hup:(lN 0 b (u:Int) x).up=x.up+(b:Int):=by show pL b (u:Int) x.up=_;unfold pL;rw[aC (by omega)]
      rw[hup] at hX;split at hX
      ·rename_i z hz;simp only[aR,bA] at hX
       have:=hno _ z hz hX.1 hX.2
       rw[aD,hlen] at this;omega
      ·cases hX
    rw[List.filter_cons,aB ht,hnil];show nj L b::cs=p::cs;unfold nj;rw[hb];rfl
theorem EJ {F:List Lf} {b:Nat} {r:List Nd} {cs:List Nat} (h:oU F b r cs) (hb:1≤b):∀(pre:List Nd),pre.length=b→((List.range' b r.length).filter (ju (pre++r))).map (nj (pre++r))=cs:=by
  induction h with
  | nil b=>intro pre _;rfl
  | err b f t r cs h ih=>
    intro pre hpre;have e:pre++⟨17,f,t,0⟩::r=(pre++[⟨17,f,t,0⟩])++r:=by simp
    have ih2:=ih (by omega) (pre++[⟨17,f,t,0⟩]) (by simp[hpre]);rw[←e] at ih2;have hx:(pre++⟨17,f,t,0⟩::r)[b]? = some ⟨17,f,t,0⟩:=by rw[aP (by omega),hpre,dB];rfl
    rw[aL,List.range'_succ,List.filter_cons,aC (by rw[od hx];simp),ih2]
  | lst b f t m r cs ds hm h ih=>
    intro pre hpre;have e:pre++⟨2,f,t,0⟩::(m++r)=(pre++⟨2,f,t,0⟩::m)++r:=by simp
    have e2:pre++⟨2,f,t,0⟩::(m++r)=(pre++[⟨2,f,t,0⟩])++(m++r):=by simp
    have hl:(pre++[(⟨2,f,t,0⟩:Nd)]).length=b+1:=by simp[hpre]
    have hup:=GZ hm ⟨hb,by omega⟩;have ih2:=ih (by omega) (pre++⟨2,f,t,0⟩::m) (by simp[hpre];omega);rw[←e] at ih2;have hx:(pre++⟨2,f,t,0⟩::(m++r))[b]? = some ⟨2,f,t,0⟩:=by rw[aP (by omega),hpre,dB];rfl
    have h1:=G0 hm ⟨hb,by omega⟩ (pre++[⟨2,f,t,0⟩]) r hl (by rw[←e2];exact⟨_,hx,rfl,rfl⟩) (fun v y h1 h2 h4=>by
      rcases bC v (b+1) with h5|h5
      ·exact .inl h5
      ·rcases bC v (b+1+m.length) with h6|h6
       ·exfalso;rw[aP (by omega),aU (by omega)] at h1
        have:=hup y (aI h1)
        omega
       ·exact .inr h6)
    rw[←e2] at h1;rw[aL,List.range'_succ,List.filter_cons,aC (by rw[od hx];simp),aD,←List.range'_append_1,List.filter_append,bG,h1,ih2]
theorem tw {F:List Lf} {r:List Nd} {cs:List Nat} (h:oU F 1 r cs) (hr:(ei F).l=⟨1,0,F.length, -1⟩::r):(jt (ei F).l (ei F).l.length).map (nj (ei F).l)=cs:=by
  have h1:=EJ h (au _) [⟨1,0,F.length, -1⟩] rfl;rw[List.singleton_append,←hr] at h1;have h0:(ei F).l[0]? = some ⟨1,0,F.length, -1⟩:=by rw[hr];rfl
  have hlen:(ei F).l.length=r.length+1:=by rw[hr];rfl
  unfold jt;rw[List.range_eq_range',hlen,List.range'_succ,List.filter_cons,aC (by rw[od h0];simp)];exact h1
theorem sQ {F:List Lf} {i:Nat} (h:F.length≤i):kx F i=none:=by unfold kx;rw[bI h];rfl
theorem Fs {F G:List Lf} {h p:Nat} (hA:∀i,i<h→kx F i=kx G i) (hF:p≤F.length) (hG:p≤G.length) (hto:(eO G p).p+2≤h):N7 (eO G p).l (eO F p).l 0∧(eO F p).p=(eO G p).p:=by
  have E:Ib F G 0 0 h:=fun i _ hi=>hA i hi
  obtain⟨h1,h2⟩:=Ap (k:=0) (p:=p) E (bq _) hG (by omega) hto;rw[cQ] at h1 h2;rw[show ((0:Nat):Int)=0 from rfl] at h1;exact⟨h1,h2⟩
theorem Fq {F G:List Lf} {t p q:Nat} (h1:t≤G.length) (h2:t≤F.length) (hT:∀j,j<t→kx G (G.length-1-j)=kx F (F.length-1-j)) (hq:(q:Int)=(p:Int)-((F.length:Int)-(G.length:Int))) (hp:F.length-t≤p) (hpF:p≤F.length) :
    N7 (eO G q).l (eO F p).l ((F.length:Int)-(G.length:Int)):=by
  rcases Nat.le_total G.length F.length with hl|hl
  ·obtain⟨k,hk⟩:∃k,F.length=G.length+k:=⟨F.length-G.length,by omega⟩;have E:Ib F G k (G.length-t) ((eO G q).p+2):=fun i hi _=>by
     rcases bC i G.length with h3|h3
     ·have:=hT (G.length-1-i) (by omega)
      rw[show G.length-1-(G.length-1-i)=i by omega,show F.length-1-(G.length-1-i)=i+k by omega] at this;exact this.symm
     ·rw[sQ h3,sQ (by omega)]
   have:=(Ap E (p:=q) (by omega) (by omega) (by omega) (au _)).1
   rw[show q+k=p by omega] at this
   rwa [show (F.length:Int)-(G.length:Int)=(k:Int) by omega]
  ·obtain⟨k,hk⟩:∃k,G.length=F.length+k:=⟨G.length-F.length,by omega⟩;have E:Ib G F k (F.length-t) ((eO F p).p+2):=fun i hi _=>by
     rcases bC i F.length with h3|h3
     ·have:=hT (F.length-1-i) (by omega)
      rw[show F.length-1-(F.length-1-i)=i by omega,show G.length-1-(F.length-1-i)=i+k by omega] at this;exact this
     ·rw[sQ h3,sQ (by omega)]
   have:=(Jz E (p:=p) hp hpF (by omega) (au _)).1
   rw[show p+k=q by omega] at this
   rwa [show (F.length:Int)-(G.length:Int) = -(k:Int) by omega]
theorem mD {F:List Lf} {s:Ps}:ef F [110] s=(sg F s.p==110):=by
  unfold ef;show List.elem (sg F s.p) [110]=_;unfold List.elem
  cases (sg F s.p==110)<;>rfl
theorem vZ {F:List Lf} {s:Ps} (h:s.deep=0):eN F s=eN F (gO s.p):=by
  unfold eN lr eS gy ef;rw[h];rfl
theorem tH {F:List Lf}:∀(n:Nat) (s:Ps) (q:Nat),q-s.p=n→s.p≤q→q≤F.length→(∀i,s.p≤i→i<q→sg F i=110)→sg F q≠110→dW F s=⟨q,s.l,s.up,s.deep⟩
  | 0,s,q,hn,h1,h2,h3,h4=>by
    obtain rfl:q=s.p:=by omega
    unfold dW;rw[LC.eq i7 s h2,mD,aN h4];rfl
  | n+1,s,q,hn,h1,h2,h3,h4=>by
    have hc:ef F [110] s=true:=by rw[mD,h3 s.p (au _) (by omega)];rfl
    unfold dW;rw[LC.eq i7 s (by omega),hc];exact tH n (dY s) q (by show q-(s.p+1)=n;omega) (by show s.p+1≤q;omega) h2 (fun i hi=>h3 i (by have:s.p+1≤i:=hi;omega)) h4
def AW (F:List Lf) (r:List Nd) (p:Nat) (b:Bool):Prop:=jj F (lz F) (⟨p,⟨1,0,0, -1⟩::r,0,0⟩,b)=jj F (lz F) (⟨0,[⟨1,0,0, -1⟩],0,0⟩,false)
theorem Dx (F:List Lf):AW F [] 0 false:=rfl
theorem MY {F:List Lf} {r:List Nd} {p:Nat} {b:Bool} (h:AW F r p b) (hp:p≤F.length) (hs:sg F p=110):AW F r (p+1) b:=by
  unfold AW at h ⊢;rw[jV (fU F _) _ hp] at h;have hc:ef F [110] ⟨p,⟨1,0,0, -1⟩::r,0,0⟩=true:=by rw[mD];show (sg F p==110)=true;rw[hs];rfl
  have e:fM F (lz F) (⟨p,⟨1,0,0, -1⟩::r,0,0⟩,b)=((⟨p+1,⟨1,0,0, -1⟩::r,0,0⟩,b),true):=by
    unfold fM;rw[aB hc];rfl
  rw[e] at h;exact h
theorem Dz {F:List Lf} {r:List Nd} {b:Bool}:∀(n p:Nat),AW F r p b→p+n≤F.length→(∀i,p≤i→i<p+n→sg F i=110)→AW F r (p+n) b
  | 0,p,h,_,_=>h
  | n+1,p,h,hp,hs=>by
    have:=Dz n (p+1) (MY h (by omega) (hs p (au _) (by omega))) (by omega) (fun i h1 h2=>hs i (by omega) (by omega))
    rwa [show p+1+n=p+(n+1) by omega] at this
theorem Lm {F:List Lf} {r:List Nd} {p:Nat} {b:Bool} (h:AW F r p b) (hp:p<F.length) (hs:sg F p≠110) (hb:(!b&&eN F (gO p))=false):AW F (r++[⟨17,p,p+1,0⟩]) (p+1) false:=by
  unfold AW at h ⊢;rw[jV (fU F _) _ (aM hp)] at h;have hc:ef F [110] ⟨p,⟨1,0,0, -1⟩::r,0,0⟩=false:=by rw[mD];exact aN hs
  have e:fM F (lz F) (⟨p,⟨1,0,0, -1⟩::r,0,0⟩,b)=((⟨p+1,(⟨1,0,0, -1⟩::r)++[⟨17,p,p+1,0⟩],0,0⟩,false),true):=by
    unfold fM;rw[aC (by rw[hc];decide)];rw[aC (show ¬(!b&&eN F ⟨p,⟨1,0,0, -1⟩::r,0,0⟩)=true by rw[vZ (F:=F) (s:=⟨p,⟨1,0,0, -1⟩::r,0,0⟩) rfl];show ¬(!b&&eN F (gO p))=true;rw[hb];decide),aB hp];congr 2;show ({dY _ with up:=(0:Int),l:=ik ((⟨1,0,0, -1⟩::r)++[⟨17,p,0,0⟩]) (⟨1,0,0, -1⟩::r).length (p+1)}:Ps)=_;rw[lL];rfl
  rw[e] at h;exact h
def Ld (F:List Lf) (u:Nat) (l:List Nd) (p:Nat) (fin:Ps):Prop:=eV F.length (fun s=>gj F (eh 3 (eW F (je F F.length)) s)) ⟨p,l,(u:Int),0⟩=fin
def my (F:List Lf) (l:List Nd) (u p:Nat):List Nd:=l++(eO F p).l.map (lN 0 l.length (u:Int))
theorem F6 (F:List Lf) (l:List Nd) (u:Nat) {p:Nat} (hp:p≤F.length):eh 3 (eW F (je F F.length)) ⟨p,l,(u:Int),0⟩=⟨(eO F p).p,my F l u p,(u:Int),0⟩:=by
  obtain⟨h1,h2,h3⟩:=zc F F.length (au _) (s:=⟨p,l,(u:Int),0⟩) hp rfl;have h4:(eh 3 (eW F (je F F.length)) ⟨p,l,(u:Int),0⟩).up=(u:Int):=rfl;generalize eh 3 (eW F (je F F.length)) ⟨p,l,(u:Int),0⟩=x at *;obtain⟨a,b,c,d⟩:=x;simp only at h1 h2 h3 h4;rw[h1,h2,h3,h4];rfl
theorem ND {F:List Lf} {u p q:Nat} {l:List Nd} {fin:Ps} (h:Ld F u l p fin) (hp:p≤F.length) (hs:gj F ⟨(eO F p).p,my F l u p,(u:Int),0⟩=(⟨q,my F l u p,(u:Int),0⟩,true)):Ld F u (my F l u p) q fin:=by
  unfold Ld at h ⊢;rw[LC.eq (jk (fU F _)) _ hp,F6 F l u hp,hs] at h;exact h
theorem Mb {F:List Lf} {u p q:Nat} {l:List Nd} {fin:Ps} (h:Ld F u l p fin) (hp:p≤F.length) (hs:gj F ⟨(eO F p).p,my F l u p,(u:Int),0⟩=(⟨q,my F l u p,(u:Int),0⟩,false)):fin=⟨q,my F l u p,(u:Int),0⟩:=by
  unfold Ld at h;rw[LC.eq (jk (fU F _)) _ hp,F6 F l u hp,hs] at h;exact h.symm
theorem xH {F:List Lf} {p q:Nat} {l:List Nd} {u:Int} (hs:sg F p=59∨sg F p=38) (hq:p+1≤q) (hF:q≤F.length) (hn:∀i,p+1≤i→i<q→sg F i=110) (hz:sg F q≠110):gj F ⟨p,l,u,0⟩=(⟨q,l,u,0⟩,eN F (gO q)):=by
  have hc:ef F [59,38] ⟨p,l,u,0⟩=true:=by unfold ef;rcases hs with h|h<;>rw[show (⟨p,l,u,0⟩:Ps).p=p from rfl,h]<;>decide
  have e:dW F (dY ⟨p,l,u,0⟩)=⟨q,l,u,0⟩:=tH _ (dY ⟨p,l,u,0⟩) q rfl hq hF hn hz;unfold gj;rw[aB hc,e,vZ (F:=F) (s:=⟨q,l,u,0⟩) rfl]
theorem LJ {F:List Lf} {p q:Nat} {l:List Nd} {u:Int} (hs:sg F p=110) (hq:p≤q) (hF:q≤F.length) (hn:∀i,p≤i→i<q→sg F i=110) (hz:sg F q≠110):gj F ⟨p,l,u,0⟩=(⟨q,l,u,0⟩,eN F (gO q)):=by
  have hc0:ef F [59,38] ⟨p,l,u,0⟩=false:=by unfold ef;rw[show (⟨p,l,u,0⟩:Ps).p=p from rfl,hs];decide
  have hc:ef F [110] ⟨p,l,u,0⟩=true:=by unfold ef;rw[show (⟨p,l,u,0⟩:Ps).p=p from rfl,hs];decide
  have e:dW F ⟨p,l,u,0⟩=⟨q,l,u,0⟩:=tH _ ⟨p,l,u,0⟩ q rfl hq hF hn hz;unfold gj;rw[aC (by rw[hc0];decide),aB hc,e,vZ (F:=F) (s:=⟨q,l,u,0⟩) rfl]
theorem LI {F:List Lf} {p:Nat} {l:List Nd} {u:Int} (h1:sg F p≠59) (h2:sg F p≠38) (h3:sg F p≠110):gj F ⟨p,l,u,0⟩=(⟨p,l,u,0⟩,false):=by
  have hc0:ef F [59,38] ⟨p,l,u,0⟩=false:=by unfold ef;simp[h1,h2]
  have hc:ef F [110] ⟨p,l,u,0⟩=false:=by unfold ef;simp[h3]
  unfold gj;rw[aC (by rw[hc0];decide),aC (by rw[hc];decide)]
theorem If {F:List Lf} {r m:List Nd} {p q:Nat} (h:AW F r p false) (hp:p≤F.length) (hs:sg F p≠110) (hb:eN F (gO p)=true)
    (hl:Ld F (r.length+1) ((⟨1,0,0, -1⟩::r)++[⟨2,p,0,0⟩]) p ⟨q,((⟨1,0,0, -1⟩::r)++[⟨2,p,0,0⟩])++m,((r.length+1:Nat):Int),0⟩):AW F (r++⟨2,p,q,0⟩::m) q true:=by
  unfold AW at h ⊢;rw[jV (fU F _) _ hp] at h;have hc:ef F [110] ⟨p,⟨1,0,0, -1⟩::r,0,0⟩=false:=by rw[mD];exact aN hs
  have e:fM F (lz F) (⟨p,⟨1,0,0, -1⟩::r,0,0⟩,false)=((⟨q,(⟨1,0,0, -1⟩::r)++⟨2,p,q,0⟩::m,0,0⟩,true),true):=by
    unfold fM;rw[aC (by rw[hc];decide),aB (show (!false&&eN F ⟨p,⟨1,0,0, -1⟩::r,0,0⟩)=true by rw[vZ (F:=F) (s:=⟨p,⟨1,0,0, -1⟩::r,0,0⟩) rfl];exact hb)];congr 2;show ({lz F ⟨p,(⟨1,0,0, -1⟩::r)++[⟨2,p,0,0⟩],((r.length+1:Nat):Int),0⟩ with up:=(0:Int),l:=ik (lz F ⟨p,(⟨1,0,0, -1⟩::r)++[⟨2,p,0,0⟩],((r.length+1:Nat):Int),0⟩).l (⟨1,0,0, -1⟩::r).length (lz F ⟨p,(⟨1,0,0, -1⟩::r)++[⟨2,p,0,0⟩],((r.length+1:Nat):Int),0⟩).p}:Ps)=_;have e2:lz F ⟨p,(⟨1,0,0, -1⟩::r)++[⟨2,p,0,0⟩],((r.length+1:Nat):Int),0⟩=⟨q,((⟨1,0,0, -1⟩::r)++[⟨2,p,0,0⟩])++m,((r.length+1:Nat):Int),0⟩:=hl;rw[e2,aW];show (⟨q,ik ((⟨1,0,0, -1⟩::r)++⟨2,p,0,0⟩::m) (⟨1,0,0, -1⟩::r).length q,0,0⟩:Ps)=_;rw[lL]
  rw[e] at h;exact h
theorem Ln {F:List Lf} {r:List Nd} {b:Bool} (h:AW F r F.length b):(ei F).l=⟨1,0,F.length, -1⟩::r:=by
  unfold AW at h;rw[jV (fU F _) _ (au _)] at h;have h0:sg F F.length=0:=by unfold sg;rw[bI (au _)]
  have hc:ef F [110] ⟨F.length,⟨1,0,0, -1⟩::r,0,0⟩=false:=by rw[mD];show (sg F F.length==110)=false;rw[h0];rfl
  have hb:eN F ⟨F.length,⟨1,0,0, -1⟩::r,0,0⟩=false:=by
    cases hq:eN F ⟨F.length,⟨1,0,0, -1⟩::r,0,0⟩
    ·rfl
    ·have:=lK hq
     have:F.length<F.length:=this
     omega
  have e:fM F (lz F) (⟨F.length,⟨1,0,0, -1⟩::r,0,0⟩,b)=((⟨F.length,⟨1,0,0, -1⟩::r,0,0⟩,b),false):=by
    unfold fM;rw[aC (by rw[hc];decide),aC (by rw[hb];simp),aC (by exact Nat.lt_irrefl _)]
  rw[e,aC dk] at h;show ik (jj F (lz F) (⟨0,[⟨1,0,0, -1⟩],0,0⟩,false)).1.l 0 (jj F (lz F) (⟨0,[⟨1,0,0, -1⟩],0,0⟩,false)).1.p=_;rw[←h];rfl
def wZ (L:List Nd) (i:Nat):Nat:=match L[i]? with|some x=>x.tt|none=>0
def xq (L:List Nd) (K:List Nat):Int→Int:=K.foldl (fun f i=>if nj L i<wZ L i then ux f (nj L i:Int) (i:Int) else f) (fun _=>0)
theorem DV (L:List Nd) (K:List Nat) (i:Nat):xq L (K++[i])=if nj L i<wZ L i then ux (xq L K) (nj L i:Int) (i:Int) else xq L K:=by unfold xq;rw[List.foldl_append];rfl
theorem DW (L:List Nd) (x:Int):∀(K:List Nat) (f:Int→Int),K.foldl (fun f i=>if nj L i<wZ L i then ux f (nj L i:Int) (i:Int) else f) f x=f x∨∃i∈K,(nj L i:Int)=x∧K.foldl (fun f i=>if nj L i<wZ L i then ux f (nj L i:Int) (i:Int) else f) f x=(i:Int)
  | [],f=>.inl rfl
  | a::K,f=>by
    rw[List.foldl_cons];rcases DW L x K (if nj L a<wZ L a then ux f (nj L a:Int) (a:Int) else f) with h|⟨i,h1,h2,h3⟩
    ·rw[h];by_cases hlt:nj L a<wZ L a
     ·rw[aB hlt];unfold ux;by_cases hx:(nj L a:Int)=x
      ·rw[aB hx];exact .inr ⟨a,by simp,hx,rfl⟩
      ·rw[aC hx];exact .inl rfl
     ·rw[aC hlt];exact .inl rfl
    ·exact .inr ⟨i,cj _ h1,h2,h3⟩
theorem zD (L:List Nd) (K:List Nat) (x:Int):xq L K x=0∨∃i∈K,(nj L i:Int)=x∧xq L K x=(i:Int):=DW L x K _
theorem Lr (G:List Lf) {x:Int} (h:0<xq (ei G).l (jt (ei G).l (ei G).l.length) x):∃(i p:Nat),xq (ei G).l (jt (ei G).l (ei G).l.length) x=(i:Int)∧x=(p:Int)∧i<(ei G).l.length∧vz G (ei G).l i p∧wZ (ei G).l i=(eO G p).p:=by
  rcases zD (ei G).l (jt (ei G).l (ei G).l.length) x with h0|⟨i,hi,h1,h2⟩
  ·omega
  ·obtain⟨hr,ht⟩:=List.mem_filter.1 hi;obtain⟨p,u,y,e1,e2,e3⟩:=DT G ht;have hs:=e3.sub;have hf:nj (ei G).l i=p:=by unfold nj;rw[e1];exact e2
   refine⟨i,p,h2,by rw[←h1,hf],cI.1 hr,hs,?_⟩;rcases hs.fst with h3|⟨z,h3,_,h5⟩
   ·rw[e1] at h3;cases h3
   ·unfold wZ;rw[h3];exact h5
end
end Go.Proofs.YtmclohkaiemnaaaGreatDoor
