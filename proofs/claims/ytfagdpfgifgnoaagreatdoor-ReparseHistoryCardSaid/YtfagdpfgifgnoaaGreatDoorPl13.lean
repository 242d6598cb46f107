/- The parser: what it makes of a row of leaves. No program is in sight. -/
import Derived.Test.YtfagdpfgifgnoaaGreatDoorLf9
set_option linter.unusedVariables false
set_option linter.unusedSimpArgs false
set_option maxRecDepth 100000
set_option maxHeartbeats 8000000
namespace Go.Proofs.YtfagdpfgifgnoaaGreatDoor
section
def Aq (s:List UInt8):UInt8:=
  if s=[33]∨s=[123]∨s=[125] then s.getD 0 0 else if s=[105,102] then 105 else if s=[116,104,101,110] then 116 else if s=[101,108,105,102] then 101
  else if s=[101,108,115,101] then 108 else if s=[102,105] then 102 else if s=[119,104,105,108,101]∨s=[117,110,116,105,108] then 119 else if s=[100,111] then 100
  else if s=[100,111,110,101] then 103 else if s=[102,111,114] then 114 else if s=[105,110] then 107 else if s=[99,97,115,101] then 99 else if s=[101,115,97,99] then 122 else 120
def DK:Nat→UInt8
  | 0=>63|1=>97|2=>111|3=>121|13=>38|14=>59|15=>124|16=>40|17=>41|_=>60
def sV (x:Lf):UInt8:=if x.kd=2 then 110 else if x.kd=4 then DK (eA x.tx) else if x.kd=5 then 35 else if x.kd=6 then Aq x.tx else 63
def sg (F:List Lf) (i:Nat):UInt8:=match F[i]? with|some x=>sV x|none=>0
def dW (F:List Lf) (i:Nat):Bool:=match F[i]? with|some x=>x.kd==6|none=>false
def tx (F:List Lf) (i:Nat):List UInt8:=match F[i]? with|some x=>x.tx|none=>[]
def eC (s:List UInt8):Bool:=s != []&&sG s 0==s.length
def nU (s:List UInt8):Bool:=sG s 0 != 0&&sG s 0 != s.length&&s.getD (sG s 0) 0==61
structure Nd where
  kd:Nat
  fr:Nat
  tt:Nat
  up:Int
structure Ps where
  p:Nat
  l:List Nd
  up:Int
  deep:Nat
def dh:List Nd→Nat→Nat→List Nd
  | [],_,_=>[]
  | n::r,0,t=>{n with tt:=t}::r
  | n::r,i+1,t=>n::dh r i t
theorem dr:∀(l:List Nd) (i t:Nat),(dh l i t).length=l.length
  | [],_,_=>rfl
  | n::r,0,t=>rfl
  | n::r,i+1,t=>by simp[dh,dr r i t]
def iW {σ:Type} (c:σ→σ×Bool):Nat→σ→σ
  | 0,s=>s
  | k+1,s=>if (c s).2=true then iW c k (c s).1 else (c s).1
theorem np {σ:Type} {c:σ→σ×Bool} {m:σ→Nat} {N:Nat} (h:∀s,m s≤N→(c s).2=true→m s<m (c s).1∧m (c s).1≤N):∀k k' s,m s≤N→N<k+m s→N<k'+m s→iW c k s=iW c k' s
  | 0,k',s,h0,h1,h2=>by omega
  | k+1,0,s,h0,h1,h2=>by omega
  | k+1,k'+1,s,h0,h1,h2=>by
    unfold iW;by_cases hc:(c s).2=true
    ·have:=h s h0 hc
     rw[if_pos hc,if_pos hc,np h k k' _ this.2 (by omega) (by omega)]
    ·rw[if_neg hc,if_neg hc]
def aZ (N:Nat) (c:Ps→Ps×Bool) (s:Ps):Ps:=iW c (N+1-s.p) s
theorem rK {N:Nat} {c:Ps→Ps×Bool} (h:∀s,s.p≤N→(c s).2=true→s.p<(c s).1.p∧(c s).1.p≤N) (s:Ps) (hs:s.p≤N):aZ N c s=if (c s).2=true then aZ N c (c s).1 else (c s).1:=by
  unfold aZ;obtain⟨k,hk⟩:∃k,N+1-s.p=k+1:=⟨N-s.p,by omega⟩;rw[hk];show (if (c s).2=true then iW c k (c s).1 else (c s).1)=_;by_cases hc:(c s).2=true
  ·have:=h s hs hc
   rw[if_pos hc,if_pos hc,np (m:=Ps.p) h k (N+1-(c s).1.p) _ this.2 (by omega) (by omega)]
  ·rw[if_neg hc,if_neg hc]
section
variable (F:List Lf)
def am (cs:List UInt8) (s:Ps):Bool:=cs.contains (sg F s.p)
def ai (s:Ps):Ps:={s with p:=s.p+1}
def aG (cs:List UInt8) (s:Ps):Ps:=if am F cs s=true then ai s else s
def an (k:Nat) (f:Ps→Ps) (s:Ps):Ps:=
  let s2:=f {s with l:=s.l++[⟨k,s.p,0,s.up⟩],up:=(s.l.length:Int)}
  {s2 with up:=s.up,l:=dh s2.l s.l.length s2.p}
def gL (k:Nat) (f:Ps→Ps) (s:Ps):Ps:=
  let s2:=an k f {s with deep:=s.deep+1}
  {s2 with deep:=s2.deep-1}
def aQ (s:Ps):Ps:=an 18 id s
def aI (c:UInt8) (s:Ps):Ps:=if am F [c] s=true then ai s else aQ s
def aD (k:Nat) (s:Ps):Ps:=an k ai s
def aU (s:Ps):Ps:=if dW F s.p=true then aD 7 s else aQ s
def ac (s:Ps):Ps:=aZ F.length (fun s=>if am F [110] s=true then (ai s,true) else (s,false)) s
def aX (s:Ps):Bool:=sg F s.p==60||sg F s.p==35&&sg F (s.p+1)==60
def cH (s:Ps):Bool:=decide (s.deep<200)&&am F [123,40,105,119,114,99] s
def lR (s:Ps):Bool:=sg F s.p==120||(aX F s||cH F s)
def bH (s:Ps):Bool:=sg F s.p==33||lR F s
def my (s:Ps):Bool:=sg F s.p==120&&(sg F (s.p+1)==40&&(decide (s.deep<200)&&eC (tx F s.p)))
def cD (s:Ps):Ps:=an 8 (fun s=>aU F (aG F [60] (aG F [35] s))) s
def cI (s:Ps):Ps:=aZ F.length (fun s=>if aX F s=true then (cD F s,true) else (s,false)) s
def eK (s:Ps):Ps:=aZ F.length (fun s=>if aX F s=true then (cD F s,true) else if dW F s.p=true then (aD 7 s,true) else (s,false)) s
def dJ (s:Ps):Ps:=
  let s1:=aZ F.length (fun s=>if aX F s=true then (cD F s,true) else if (dW F s.p&&nU (tx F s.p))=true then (aD 6 s,true) else (s,false)) s
  if dW F s1.p=true then eK F (aD 7 s1) else s1
variable (L:Ps→Ps)
def aF (s:Ps):Ps:=if bH F (ac F s)=true then an 2 L (ac F s) else aQ (ac F s)
def iC (s:Ps):Ps:=
  let s1:=aZ F.length (fun s=>if am F [101] s=true then (aF F L (aI F 116 (aF F L (ai s))),true) else (s,false)) (aF F L (aI F 116 (aF F L s)))
  aI F 102 (if am F [108] s1=true then aF F L (ai s1) else s1)
def An (s:Ps):Ps:=aI F 103 (aF F L (aI F 100 s))
def eJ (s:Ps):Ps:=aZ F.length (fun s=>if dW F s.p=true then (aD 7 s,true) else (s,false)) s
def sH (s:Ps):Ps:=
  let s1:=eJ F (ai s)
  if am F [59] s1=true then ac F (ai s1) else if am F [110] s1=true then ac F s1 else aQ s1
def cG (s:Ps):Ps:=
  let s1:=if (dW F s.p&&eC (tx F s.p))=true then aD 7 s else aQ s
  An F L (if am F [59] s1=true then ac F (ai s1) else if am F [107] (ac F s1)=true then sH F (ac F s1) else ac F s1)
def aO (s:Ps):Ps:=
  let s1:=ac F (aI F 41 (aZ F.length (fun s=>if am F [124] s=true then (aU F (ai s),true) else (s,false)) (aU F (aG F [40] s))))
  if bH F s1=true then an 2 L s1 else s1
def eF (s:Ps):Bool:=sg F s.p==40||dW F s.p&&sg F s.p != 122
def eR (s:Ps):Ps:=
  aI F 122 (aZ F.length (fun s=>if eF F s=true then (if am F [121] (an 15 (aO F L) s)=true then (ac F (ai (an 15 (aO F L) s)),true) else (an 15 (aO F L) s,false)) else (s,false)) (ac F (aI F 107 (ac F (aU F s)))))
def oo (c:UInt8) (s:Ps):Ps:=
  if c=40 then aI F 41 (aF F L s) else if c=105 then iC F L s else if c=119 then An F L (aF F L s) else if c=114 then cG F L s else if c=99 then eR F L s else aI F 125 (aF F L s)
def nS (c:UInt8):Nat:=if c=40 then 10 else if c=105 then 11 else if c=119 then 12 else if c=114 then 13 else if c=99 then 14 else 9
def cT (s:Ps):Ps:=gL (nS (sg F s.p)) (fun t=>cI F (oo F L (sg F s.p) (ai t))) s
def jE (s:Ps):Ps:=
  let s1:=ac F (aI F 41 (aG F [40] (aU F s)))
  if cH F s1=true then cT F L s1 else aQ s1
def gT (s:Ps):Ps:=if cH F s=true then cT F L s else if my F s=true then gL 16 (jE F L) s else if lR F s=true then an 5 (dJ F) s else aQ s
def ii (s:Ps):Ps:=aZ F.length (fun s=>if am F [124] s=true then (gT F L (ac F (ai s)),true) else (s,false)) (gT F L (aG F [33] s))
def jA (s:Ps):Ps:=if bH F s=true then an 4 (ii F L) s else aQ s
def bv (s:Ps):Ps:=aZ F.length (fun s=>if am F [97,111] s=true then (jA F L (ac F (ai s)),true) else (s,false)) (jA F L s)
def cR (s:Ps):Ps×Bool:=if am F [59,38] s=true then (ac F (ai s),bH F (ac F (ai s))) else if am F [110] s=true then (ac F s,bH F (ac F s)) else (s,false)
def nm (s:Ps):Ps:=aZ F.length (fun s=>cR F (an 3 (bv F L) s)) s
end
def ef (F:List Lf):Nat→Ps→Ps
  | 0=>id
  | n+1=>nm F (ef F n)
def Gi (k x y:Nat):Prop:=1≤k∧k≤18∧(k=17→y=x+1)∧(k=18→y=x)
inductive Fo:Nat→Int→Nat→Nat→List Nd→Prop
  | nil {b:Nat} {u:Int} {a c:Nat}:a≤c→Fo b u a c []
  | cons {b:Nat} {u:Int} {a c k x y:Nat} {ks r:List Nd}:a≤x→x≤y→Gi k x y→Fo (b+1) (b:Int) x y ks→Fo (b+1+ks.length) u y c r→Fo b u a c (⟨k,x,y,u⟩::(ks++r))
theorem Fo.le {b:Nat} {u:Int} {a c:Nat} {l:List Nd} (h:Fo b u a c l):a≤c:=by
  induction h with
  | nil h=>exact h
  | cons h1 h2 _ _ _ _ ih=>omega
theorem Fo.app {b:Nat} {u:Int} {a c:Nat} {l:List Nd} (h:Fo b u a c l):∀{d:Nat} {m:List Nd},Fo (b+l.length) u c d m→Fo b u a d (l++m):=by
  induction h with
  | nil h=>
    intro d m k
    cases k with
    | nil k=>exact .nil (by omega)
    | cons k1 k2 k3 k4 k5=>exact .cons (by omega) k2 k3 k4 k5
  | @cons b u a c k x y ks r h1 h2 h3 h4 h5 _ ih=>
    intro d m hm;rw[List.cons_append,List.append_assoc];refine .cons h1 h2 h3 h4 (ih ?_);simp only[List.length_cons,List.length_append] at hm
    rwa [show b+1+ks.length+r.length=b+(ks.length+r.length+1) by omega]
theorem Fo.mono {b:Nat} {u:Int} {a a' c:Nat} {l:List Nd} (h:Fo b u a c l) (ha:a'≤a):Fo b u a' c l:=by
  cases h with
  | nil h=>exact .nil (by omega)
  | cons h1 h2 h3 h4 h5=>exact .cons (by omega) h2 h3 h4 h5
theorem iq (l:List Nd) (n:Nd) (r:List Nd) (t:Nat):dh (l++n::r) l.length t=l++{n with tt:=t}::r:=by
  induction l with
  | nil=>rfl
  | cons a l ih=>show a::dh (l++n::r) l.length t=_;rw[ih];rfl
structure Gd (N B:Nat) (s t:Ps):Prop where
  p:s.p≤t.p
  N:t.p≤N
  l:s.l.length≤t.l.length
  b:t.l.length+16*s.p≤s.l.length+16*t.p+B
  up:t.up=s.up
  dp:t.deep=s.deep
  f:∃m,t.l=s.l++m∧Fo s.l.length s.up s.p t.p m
theorem Gd.refl {N:Nat} {s:Ps} (h:s.p≤N):Gd N 0 s s:=⟨Nat.le_refl _,h,Nat.le_refl _,by omega,rfl,rfl,[],by simp,.nil (Nat.le_refl _)⟩
theorem Gd.trans {N A B:Nat} {s t u:Ps} (h:Gd N A s t) (k:Gd N B t u):Gd N (A+B) s u:=by
  refine⟨Nat.le_trans h.p k.p,k.N,Nat.le_trans h.l k.l,by have:=h.b;have:=k.b;omega,k.up.trans h.up,k.dp.trans h.dp,?_⟩;obtain⟨m,h1,h2⟩:=h.f;obtain⟨m',k1,k2⟩:=k.f;rw[h.up,h1,List.length_append] at k2;exact⟨m++m',by rw[k1,h1,List.append_assoc],h2.app k2⟩
theorem Gd.mono {N A B:Nat} {s t:Ps} (h:Gd N A s t) (hab:A≤B):Gd N B s t:=⟨h.p,h.N,h.l,by have:=h.b;omega,h.up,h.dp,h.f⟩
theorem Gd.next {N:Nat} {s:Ps} (h:s.p<N):Gd N 0 s (ai s)∧s.p<(ai s).p∧(ai s).l.length+16*s.p+16≤s.l.length+16*(ai s).p:=⟨⟨Nat.le_succ _,h,Nat.le_refl _,by show s.l.length+16*s.p≤s.l.length+16*(s.p+1)+0;omega,rfl,rfl,[],by simp[ai],.nil (Nat.le_succ _)⟩,Nat.lt_succ_self _,by show s.l.length+16*s.p+16≤s.l.length+16*(s.p+1);omega⟩
theorem Gd.paid {N A:Nat} {s t:Ps} (h:s.p<N) (k:Gd N A (ai s) t) (hA:A≤16):Gd N 0 s t∧s.p<t.p:=by
  have h1:=k.p;have h2:=k.b;have h3:(ai s).p=s.p+1:=rfl;have h4:(ai s).l=s.l:=rfl;obtain⟨m,h5,h6⟩:=k.f;rw[h3] at h1 h2 h6;rw[h4] at h2 h5 h6;exact⟨⟨by omega,k.N,by rw[←h4];exact k.l,by omega,k.up,k.dp,m,h5,h6.mono (by omega)⟩,by omega⟩
theorem Gd.node {N A k:Nat} {s:Ps} {f:Ps→Ps} (h:Gd N A {s with l:=s.l++[⟨k,s.p,0,s.up⟩],up:=(s.l.length:Int)} (f {s with l:=s.l++[⟨k,s.p,0,s.up⟩],up:=(s.l.length:Int)})) (hk:Gi k s.p (f {s with l:=s.l++[⟨k,s.p,0,s.up⟩],up:=(s.l.length:Int)}).p):Gd N (A+1) s (an k f s):=by
  have h1:=h.p;have h2:=h.l;have h3:=h.b;obtain⟨m,h4,h5⟩:=h.f;simp only[List.length_append,List.length_singleton] at h2 h3 h5
  refine⟨h1,h.N,by show _≤(dh _ _ _).length;rw[dr];omega,by show (dh _ _ _).length+_≤_;rw[dr];show _+16*s.p≤s.l.length+16*(f _).p+_;omega,rfl,h.dp,
    ⟨k,s.p,(f {s with l:=s.l++[⟨k,s.p,0,s.up⟩],up:=(s.l.length:Int)}).p,s.up⟩::m,?_,?_⟩
  ·show dh (f {s with l:=s.l++[⟨k,s.p,0,s.up⟩],up:=(s.l.length:Int)}).l s.l.length (f {s with l:=s.l++[⟨k,s.p,0,s.up⟩],up:=(s.l.length:Int)}).p=_;rw[h4,List.append_assoc,List.singleton_append,iq]
  ·have:=Fo.cons (u:=s.up) (Nat.le_refl s.p) h5.le hk h5 (.nil (Nat.le_refl _))
   rw[List.append_nil] at this;exact this
theorem Gd.node0 {N A k:Nat} {s:Ps} {f:Ps→Ps} (h:∀t:Ps,t.p=s.p→t.deep=s.deep→Gd N A t (f t)) (hk:1≤k∧k≤16:=by decide):Gd N (A+1) s (an k f s):=Gd.node (h _ rfl rfl) ⟨hk.1,by omega,fun e=>by omega,fun e=>by omega⟩
theorem Gd.nest {N A k:Nat} {s:Ps} {f:Ps→Ps} (h:∀t:Ps,t.p=s.p→t.deep=s.deep+1→Gd N A t (f t)) (hk:1≤k∧k≤16:=by decide):Gd N (A+1) s (gL k f s):=by
  have h1:=Gd.node0 (k:=k) (s:={s with deep:=s.deep+1}) h hk;exact⟨h1.p,h1.N,h1.l,h1.b,h1.up,by show (an k f {s with deep:=s.deep+1}).deep-1=s.deep;rw[h1.dp];rfl,h1.f⟩
def LC (N B:Nat) (s:Ps) (r:Ps×Bool):Prop:=(r.2=true→Gd N 0 s r.1∧s.p<r.1.p)∧(r.2=false→Gd N B s r.1)
theorem LC.yes {N B:Nat} {s t:Ps} (h:Gd N 0 s t∧s.p<t.p):LC N B s (t,true):=⟨fun _=>h,fun h=>by cases h⟩
theorem LC.no {N B:Nat} {s t:Ps} (h:Gd N B s t):LC N B s (t,false):=⟨fun h=>(by cases h),fun _=>h⟩
theorem LC.any {N:Nat} {s t:Ps} {b:Bool} (h:Gd N 0 s t∧s.p<t.p):LC N 0 s (t,b):=⟨fun _=>h,fun _=>h.1⟩
theorem LC.ite {N B:Nat} {s:Ps} {r r':Ps×Bool} {b:Bool} (h:b=true→LC N B s r) (k:b=false→LC N B s r'):LC N B s (if b=true then r else r'):=by
  cases b
  ·exact k rfl
  ·exact h rfl
theorem Gd.ite {N B:Nat} {s r r':Ps} {b:Bool} (h:b=true→Gd N B s r) (k:b=false→Gd N B s r'):Gd N B s (if b=true then r else r'):=by
  cases b
  ·exact k rfl
  ·exact h rfl
theorem Gd.loop {N:Nat} {c:Ps→Ps×Bool} {B:Nat} (h:∀s,s.p≤N→LC N B s (c s)):∀m s,N-s.p=m→s.p≤N→Gd N B s (aZ N c s):=by
  intro m
  induction m using Nat.strongRecOn with
  | _ m ih=>
    intro s hm hs;rw[rK (fun s hs hc=>⟨((h s hs).1 hc).2,((h s hs).1 hc).1.N⟩) s hs];by_cases hc:(c s).2=true
    ·rw[if_pos hc];have h1:=(h s hs).1 hc;have h2:=h1.1.N;simpa using h1.1.trans (ih _ (by omega) _ rfl h2)
    ·rw[if_neg hc]
     exact(h s hs).2 (by simpa using hc)
theorem LC.eq {N B:Nat} {c:Ps→Ps×Bool} (h:∀s,s.p≤N→LC N B s (c s)) (s:Ps) (hs:s.p≤N):aZ N c s=if (c s).2=true then aZ N c (c s).1 else (c s).1:=
  rK (fun s hs hc=>⟨((h s hs).1 hc).2,((h s hs).1 hc).1.N⟩) s hs
theorem qN {F:List Lf} {i:Nat} (h:sg F i≠0):i<F.length:=by
  unfold sg at h;refine Nat.lt_of_not_le fun hi=>?_
  rw[List.getElem?_eq_none hi] at h;exact h rfl
theorem au {F:List Lf} {cs:List UInt8} {s:Ps} (hc:am F cs s=true) (h0:cs.contains 0=false):s.p<F.length:=by
  refine qN fun e=>?_
  unfold am at hc;rw[e,h0] at hc
  cases hc
theorem bC {F:List Lf} {i:Nat} (h:dW F i=true):i<F.length:=by
  unfold dW at h;refine Nat.lt_of_not_le fun hi=>?_
  rw[List.getElem?_eq_none hi] at h
  cases h
section
variable {F:List Lf}
theorem bX {cs:List UInt8} (h0:cs.contains 0=false) {s:Ps} (hs:s.p≤F.length):Gd F.length 0 s (aG F cs s):=by
  unfold aG;by_cases hc:am F cs s=true
  ·rw[if_pos hc];exact(Gd.next (au hc h0)).1
  ·rw[if_neg hc];exact Gd.refl hs
theorem cO {s:Ps} (hs:s.p≤F.length):Gd F.length 1 s (aQ s):=Gd.node (A:=0) (Gd.refl hs) ⟨by decide,by decide,fun e=>(by cases e),fun _=>rfl⟩
theorem bY {k:Nat} {s:Ps} (hs:s.p<F.length) (hk:1≤k∧k≤17:=by decide):Gd F.length 1 s (aD k s)∧s.p<(aD k s).p∧Gd F.length 0 s (aD k s):=by
  have h:Gd F.length 0 _ _:=(Gd.next (N:=F.length) (s:={s with l:=s.l++[⟨k,s.p,0,s.up⟩],up:=(s.l.length:Int)}) hs).1;have h1:=Gd.node h ⟨hk.1,by omega,fun _=>rfl,fun e=>by omega⟩;refine⟨h1,Nat.lt_succ_self _,h1.p,h1.N,h1.l,?_,h1.up,h1.dp,h1.f⟩;show (dh _ _ _).length+_≤_;rw[dr];show (s.l++_).length+16*s.p≤s.l.length+16*(s.p+1)+0;simp;omega
theorem bj {c:UInt8} (h0:c≠0) {s:Ps} (hs:s.p≤F.length):Gd F.length 1 s (aI F c s):=by
  unfold aI;by_cases hc:am F [c] s=true
  ·rw[if_pos hc];exact(Gd.next (au hc (by simpa using h0.symm))).1.mono (by omega)
  ·rw[if_neg hc];exact cO hs
theorem dk {s:Ps} (hs:s.p≤F.length):Gd F.length 1 s (aU F s):=by
  unfold aU;by_cases hc:dW F s.p=true
  ·rw[if_pos hc];exact(bY (bC hc)).1
  ·rw[if_neg hc];exact cO hs
end
section
variable {F:List Lf}
theorem fy:∀s:Ps,s.p≤F.length→LC F.length 0 s (if am F [110] s=true then (ai s,true) else (s,false)):=fun s hs=>
  LC.ite (fun hc=>LC.yes ⟨(Gd.next (au hc (by decide))).1,Nat.lt_succ_self _⟩) (fun _=>LC.no (Gd.refl hs))
theorem ar {s:Ps} (hs:s.p≤F.length):Gd F.length 0 s (ac F s):=Gd.loop fy _ s rfl hs
theorem xq {s:Ps} (h:aX F s=true):s.p<F.length:=by
  refine qN fun e=>?_
  unfold aX at h;rw[e] at h;simp at h
theorem xu {s:Ps} (h:aX F s=true):s.p<(aG F [60] (aG F [35] s)).p:=by
  unfold aX at h;unfold aG am;by_cases h1:sg F s.p=60
  ·rw[h1];simp[ai,h1]
  ·have h2:(sg F s.p==60)=false:=by simpa using h1
   rw[h2] at h;have h3:sg F s.p=35∧sg F (s.p+1)=60:=by simpa using h
   rw[h3.1];simp[ai,h3.2];omega
theorem sP (cs:List UInt8) (s:Ps):(aG F cs s).l=s.l:=by
  unfold aG;split<;>rfl
theorem iY {s:Ps} (h:aX F s=true):Gd F.length 0 s (cD F s)∧s.p<(cD F s).p:=by
  have hlt:=xq h;have h1:∀t:Ps,t.p=s.p→Gd F.length 1 t (aU F (aG F [60] (aG F [35] t)))∧t.p<(aU F (aG F [60] (aG F [35] t))).p∧(aU F (aG F [60] (aG F [35] t))).l.length+16*t.p+15≤t.l.length+16*(aU F (aG F [60] (aG F [35] t))).p:=fun t ht=>by
    have ht2:aX F t=true:=by unfold aX at h ⊢;rwa [ht]
    have a:=bX (F:=F) (cs:=[35]) (by decide) (s:=t) (by omega);have b:=bX (F:=F) (cs:=[60]) (by decide) a.N;have c:=dk b.N;have d:=xu ht2;have e:=c.b;rw[sP,sP] at e;exact⟨by simpa using (a.trans b).trans c,Nat.lt_of_lt_of_le d c.p,by omega⟩
  have h2:=Gd.node0 (k:=8) (s:=s) fun t ht _=>(h1 t ht).1
  obtain⟨_,h4,h5⟩:=h1 {s with l:=s.l++[⟨8,s.p,0,s.up⟩],up:=(s.l.length:Int)} rfl;refine⟨⟨h2.p,h2.N,h2.l,?_,h2.up,h2.dp,h2.f⟩,h4⟩;simp only[List.length_append,List.length_singleton] at h5;show (dh _ _ _).length+_≤_;rw[dr];show (aU F (aG F [60] (aG F [35] {s with l:=s.l++[⟨8,s.p,0,s.up⟩],up:=(s.l.length:Int)}))).l.length+16*s.p≤s.l.length+16*(aU F (aG F [60] (aG F [35] {s with l:=s.l++[⟨8,s.p,0,s.up⟩],up:=(s.l.length:Int)}))).p+0;omega
theorem fH:∀s:Ps,s.p≤F.length→LC F.length 0 s (if aX F s=true then (cD F s,true) else (s,false)):=fun s hs=>
  LC.ite (fun hc=>LC.yes (iY hc)) (fun _=>LC.no (Gd.refl hs))
theorem jr {s:Ps} (hs:s.p≤F.length):Gd F.length 0 s (cI F s):=Gd.loop fH _ s rfl hs
theorem gj:∀s:Ps,s.p≤F.length→LC F.length 0 s (if aX F s=true then (cD F s,true) else if dW F s.p=true then (aD 7 s,true) else (s,false)):=fun s hs=>
  LC.ite (fun hc=>LC.yes (iY hc)) (fun _=>LC.ite (fun hc=>LC.yes ⟨(bY (bC hc)).2.2,(bY (bC hc)).2.1⟩) (fun _=>LC.no (Gd.refl hs)))
theorem eS:∀s:Ps,s.p≤F.length→LC F.length 0 s (if aX F s=true then (cD F s,true) else if (dW F s.p&&nU (tx F s.p))=true then (aD 6 s,true) else (s,false)):=fun s hs=>
  LC.ite (fun hc=>LC.yes (iY hc)) (fun _=>LC.ite (fun hc=>by
    have hc:=bC ((Bool.and_eq_true _ _).mp hc).1;exact LC.yes ⟨(bY hc).2.2,(bY hc).2.1⟩) (fun _=>LC.no (Gd.refl hs)))
theorem nF {s:Ps} (hs:s.p≤F.length):Gd F.length 0 s (eK F s):=Gd.loop gj _ s rfl hs
theorem uR {s:Ps} (hs:s.p≤F.length):Gd F.length 0 s (dJ F s):=by
  have h1:=Gd.loop (eS (F:=F)) _ s rfl hs;refine Gd.ite (fun hc=>?_) (fun _=>h1);have h2:=(bY (F:=F) (k:=7) (bC hc)).2.2;simpa using (h1.trans h2).trans (nF h2.N)
variable {L:Ps→Ps}
abbrev GL (F:List Lf) (L:Ps→Ps):Prop:=∀s:Ps,s.p≤F.length→Gd F.length 3 s (L s)
theorem bG (hL:GL F L) {s:Ps} (hs:s.p≤F.length):Gd F.length 4 s (aF F L s):=by
  have h1:=ar hs;refine Gd.ite (fun _=>?_) (fun _=>?_)
  ·simpa using h1.trans (Gd.node0 (A:=3) fun t ht _=>hL t (by have:=h1.N;omega))
  ·exact(h1.trans (cO h1.N)).mono (by omega)
theorem fe (hL:GL F L):∀s:Ps,s.p≤F.length→LC F.length 0 s (if am F [101] s=true then (aF F L (aI F 116 (aF F L (ai s))),true) else (s,false)):=fun s hs=>
  LC.ite (fun hc=>LC.yes (by
    have h0:=au hc (by decide);have h1:=bG hL (Gd.next h0).1.N;have h2:=bj (F:=F) (c:=116) (by decide) h1.N;exact Gd.paid h0 ((h1.trans h2).trans (bG hL h2.N)) (by omega))) (fun _=>LC.no (Gd.refl hs))
theorem Cg (hL:GL F L) {s:Ps} (hs:s.p≤F.length):Gd F.length 14 s (iC F L s):=by
  have h1:=bG hL hs;have h2:=bj (F:=F) (c:=116) (by decide) h1.N;have h3:=bG hL h2.N;have h4:=Gd.loop (fe hL) _ _ rfl h3.N;have h5:=((h1.trans h2).trans h3).trans h4;have h6:Gd F.length 4 (aZ F.length (fun s=>if am F [101] s=true then (aF F L (aI F 116 (aF F L (ai s))),true) else (s,false)) (aF F L (aI F 116 (aF F L s)))) _:=Gd.ite (b:=am F [108] _) (fun hc=>by
    have h0:=au hc (by decide)
    exact(Gd.paid h0 (bG hL (Gd.next h0).1.N) (by omega)).1.mono (by omega)) (fun _=>(Gd.refl h5.N).mono (by omega))
  exact(h5.trans h6).trans (bj (F:=F) (c:=102) (by decide) h6.N)
theorem uU (hL:GL F L) {s:Ps} (hs:s.p≤F.length):Gd F.length 6 s (An F L s):=by
  have h1:=bj (F:=F) (c:=100) (by decide) hs;have h2:=bG hL h1.N
  exact(h1.trans h2).trans (bj (F:=F) (c:=103) (by decide) h2.N)
theorem dF:∀s:Ps,s.p≤F.length→LC F.length 0 s (if dW F s.p=true then (aD 7 s,true) else (s,false)):=fun s hs=>
  LC.ite (fun hc=>LC.yes ⟨(bY (bC hc)).2.2,(bY (bC hc)).2.1⟩) (fun _=>LC.no (Gd.refl hs))
theorem rQ {s:Ps} (hs:s.p≤F.length):Gd F.length 0 s (eJ F s):=Gd.loop dF _ s rfl hs
theorem yY {s:Ps} (hs:s.p<F.length):Gd F.length 1 s (sH F s):=by
  have h0:=(Gd.next (N:=F.length) hs).1;have h1:=h0.trans (rQ h0.N);refine Gd.ite (fun hc=>?_) (fun _=>Gd.ite (fun _=>?_) (fun _=>?_))
  ·have h2:=(Gd.next (au hc (by decide))).1
   exact((h1.trans h2).trans (ar h2.N)).mono (by omega)
  ·exact(h1.trans (ar h1.N)).mono (by omega)
  ·simpa using h1.trans (cO h1.N)
theorem Cf (hL:GL F L) {s:Ps} (hs:s.p≤F.length):Gd F.length 8 s (cG F L s):=by
  have h1:Gd F.length 1 s (if (dW F s.p&&eC (tx F s.p))=true then aD 7 s else aQ s):=Gd.ite (fun hc=>(bY (bC ((Bool.and_eq_true _ _).mp hc).1)).1) (fun _=>cO hs);unfold cG;generalize (if (dW F s.p&&eC (tx F s.p))=true then aD 7 s else aQ s)=s1 at h1;have h2:Gd F.length 1 s1 (if am F [59] s1=true then ac F (ai s1) else if am F [107] (ac F s1)=true then sH F (ac F s1) else ac F s1):=by
    have h3:=ar h1.N;refine Gd.ite (fun hc=>?_) (fun _=>Gd.ite (fun hc=>?_) (fun _=>h3.mono (by omega)))
    ·have h2:=(Gd.next (au hc (by decide))).1
     exact(h2.trans (ar h2.N)).mono (by omega)
    ·simpa using h3.trans (yY (au hc (by decide)))
  exact(h1.trans h2).trans (uU hL h2.N)
theorem iu:∀s:Ps,s.p≤F.length→LC F.length 0 s (if am F [124] s=true then (aU F (ai s),true) else (s,false)):=fun s hs=>
  LC.ite (fun hc=>LC.yes (by
    have h0:=au hc (by decide);exact Gd.paid h0 (dk (Gd.next h0).1.N) (by omega))) (fun _=>LC.no (Gd.refl hs))
theorem uT (hL:GL F L) {s:Ps} (hs:s.p≤F.length):Gd F.length 6 s (aO F L s):=by
  have h1:=bX (F:=F) (cs:=[40]) (by decide) hs;have h2:=dk h1.N;have h3:=Gd.loop iu _ _ rfl h2.N;have h4:=bj (F:=F) (c:=41) (by decide) h3.N;have h5:=(((h1.trans h2).trans h3).trans h4).trans (ar h4.N);refine Gd.ite (fun _=>?_) (fun _=>h5.mono (by omega));exact h5.trans (Gd.node0 (A:=3) fun t ht _=>hL t (by have:=h5.N;omega))
theorem B9 {s:Ps} (h:eF F s=true):s.p<F.length:=by
  unfold eF at h;rcases (Bool.or_eq_true _ _).mp h with h|h
  ·exact qN fun e=>by rw[e] at h;revert h;decide
  ·exact bC ((Bool.and_eq_true _ _).mp h).1
theorem mO (hL:GL F L) {s:Ps} (h:eF F s=true):Gd F.length 0 s (an 15 (aO F L) s)∧s.p<(an 15 (aO F L) s).p:=by
  have hlt:=B9 h;have h1:=Gd.node0 (k:=15) (s:=s) (f:=aO F L) (A:=6) (N:=F.length) fun t ht _=>uT hL (by omega)
  have key:∀t:Ps,t.p=s.p→t.p<(aO F L t).p∧(aO F L t).l.length+16*t.p+10≤t.l.length+16*(aO F L t).p:=fun t e=>by
    have a1:=bX (F:=F) (cs:=[40]) (by decide) (s:=t) (by omega);have a2:=dk a1.N;have a3:=Gd.loop iu _ _ rfl a2.N;have a4:=bj (F:=F) (c:=41) (by decide) a3.N;have a5:=(a3.trans a4).trans (ar a4.N);have a6:t.p<(aU F (aG F [40] t)).p∧(aU F (aG F [40] t)).l.length+16*t.p+15≤t.l.length+16*(aU F (aG F [40] t)).p:=by
      by_cases hc:am F [40] t=true
      ·have:(aG F [40] t).p=t.p+1:=by unfold aG;rw[if_pos hc];rfl
       have:=a2.p
       have h9:=a2.b;rw[sP] at h9;omega
      ·have e2:aG F [40] t=t:=by unfold aG;rw[if_neg hc]
       rw[e2];unfold eF at h;have h3:(sg F s.p==40)=false:=by
         unfold am at hc;rw[e] at hc;simpa using hc
       rw[h3] at h;have h4:dW F t.p=true:=by rw[e];simp at h;exact h.1
       unfold aU;rw[if_pos h4];have h8:=(bY (F:=F) (k:=7) (bC h4)).2.1;refine⟨h8,?_⟩;have e9:(aD 7 t).l.length=t.l.length+1:=by show (dh (t.l++_) _ _).length=_;rw[dr];simp
       have e8:(aD 7 t).p=t.p+1:=rfl;omega
    have a7:=a5.p;have a8:=a5.b;unfold aO;by_cases hp:bH F (ac F (aI F 41 (aZ F.length (fun s=>if am F [124] s=true then (aU F (ai s),true) else (s,false)) (aU F (aG F [40] t)))))=true
    ·rw[if_pos hp];have h9:=(Gd.node0 (k:=2) (f:=L) (A:=3) (N:=F.length) (s:=(ac F (aI F 41 (aZ F.length (fun s=>if am F [124] s=true then (aU F (ai s),true) else (s,false)) (aU F (aG F [40] t)))))) fun t ht _=>hL t (by have:=a5.N;omega))
     have:=h9.p
     have:=h9.b
     omega
    ·rw[if_neg hp];omega
  obtain⟨h4,h5⟩:=key {s with l:=s.l++[⟨15,s.p,0,s.up⟩],up:=(s.l.length:Int)} rfl;refine⟨⟨h1.p,h1.N,h1.l,?_,h1.up,h1.dp,h1.f⟩,h4⟩;simp only[List.length_append,List.length_singleton] at h5;show (dh _ _ _).length+_≤_;rw[dr];show (aO F L {s with l:=s.l++[⟨15,s.p,0,s.up⟩],up:=(s.l.length:Int)}).l.length+16*s.p≤s.l.length+16*(aO F L {s with l:=s.l++[⟨15,s.p,0,s.up⟩],up:=(s.l.length:Int)}).p+0;omega
theorem dw (hL:GL F L):∀s:Ps,s.p≤F.length→LC F.length 0 s (if eF F s=true then (if am F [121] (an 15 (aO F L) s)=true then (ac F (ai (an 15 (aO F L) s)),true) else (an 15 (aO F L) s,false)) else (s,false)):=fun s hs=>
  LC.ite (fun hc=>by
    obtain⟨h1,h2⟩:=mO hL hc;refine LC.ite (fun hy=>?_) (fun _=>LC.no h1);have h3:=Gd.next (au hy (by decide));have h4:=ar h3.1.N;refine LC.yes ⟨by simpa using (h1.trans h3.1).trans h4,?_⟩
    have:=h3.2.1
    have:=h4.p
    omega) (fun _=>LC.no (Gd.refl hs))
theorem za (hL:GL F L) {s:Ps} (hs:s.p≤F.length):Gd F.length 3 s (eR F L s):=by
  have h1:=dk hs;have h2:=ar h1.N;have h3:=bj (F:=F) (c:=107) (by decide) h2.N;have h4:=ar h3.N;have h5:=Gd.loop (dw hL) _ _ rfl h4.N
  exact((((h1.trans h2).trans h3).trans h4).trans h5).trans (bj (F:=F) (c:=122) (by decide) h5.N)
theorem iZ (hL:GL F L) (c:UInt8) {s:Ps} (hs:s.p≤F.length):Gd F.length 14 s (oo F L c s):=by
  unfold oo;have hb:=bG hL hs
  repeat' split
  ·exact(hb.trans (bj (F:=F) (c:=41) (by decide) hb.N)).mono (by omega)
  ·exact Cg hL hs
  ·exact(hb.trans (uU hL hb.N)).mono (by omega)
  ·exact(Cf hL hs).mono (by omega)
  ·exact(za hL hs).mono (by omega)
  ·exact(hb.trans (bj (F:=F) (c:=125) (by decide) hb.N)).mono (by omega)
theorem dO {s:Ps} (h:cH F s=true):s.p<F.length:=au ((Bool.and_eq_true _ _).mp h).2 (by decide)
theorem CC (c:UInt8):1≤nS c∧nS c≤16:=by
  unfold nS
  repeat' split
  all_goals omega
theorem mQ (hL:GL F L) {s:Ps} (h:s.p<F.length):Gd F.length 0 s (cT F L s)∧s.p<(cT F L s).p:=by
  have h1:∀t:Ps,t.p=s.p→Gd F.length 14 (ai t) (cI F (oo F L (sg F s.p) (ai t))):=fun t ht=>by
    have h0:=(Gd.next (N:=F.length) (s:=t) (by omega)).1;have h2:=iZ hL (sg F s.p) h0.N;simpa using h2.trans (jr h2.N)
  have h3:=Gd.nest (k:=nS (sg F s.p)) (s:=s) (A:=0) (N:=F.length) (f:=fun t=>cI F (oo F L (sg F s.p) (ai t))) (fun t ht _=>(Gd.paid (by omega) (h1 t ht) (by omega)).1) (CC _);have h4:s.p<(cT F L s).p:=by
    have:=(h1 {s with deep:=s.deep+1,l:=s.l++[⟨nS (sg F s.p),s.p,0,s.up⟩],up:=(s.l.length:Int)} rfl).p
    exact Nat.lt_of_lt_of_le (Nat.lt_succ_self _) this
  refine⟨⟨h3.p,h3.N,h3.l,?_,h3.up,h3.dp,h3.f⟩,h4⟩;have hb:=(h1 {s with deep:=s.deep+1,l:=s.l++[⟨nS (sg F s.p),s.p,0,s.up⟩],up:=(s.l.length:Int)} rfl).b;show (dh _ _ _).length+_≤_;rw[dr];have e1:(ai {s with deep:=s.deep+1,l:=s.l++[⟨nS (sg F s.p),s.p,0,s.up⟩],up:=(s.l.length:Int)}).l.length=s.l.length+1:=by simp[ai]
  have e2:(ai {s with deep:=s.deep+1,l:=s.l++[⟨nS (sg F s.p),s.p,0,s.up⟩],up:=(s.l.length:Int)}).p=s.p+1:=rfl;rw[e1,e2] at hb;show (cI F (oo F L (sg F s.p) (ai {s with deep:=s.deep+1,l:=s.l++[⟨nS (sg F s.p),s.p,0,s.up⟩],up:=(s.l.length:Int)}))).l.length+16*s.p≤s.l.length+16*(cI F (oo F L (sg F s.p) (ai {s with deep:=s.deep+1,l:=s.l++[⟨nS (sg F s.p),s.p,0,s.up⟩],up:=(s.l.length:Int)}))).p+0;omega
theorem Fs {s:Ps} (h:sg F s.p=120):dW F s.p=true:=by
  unfold sg at h;unfold dW
  cases hx:F[s.p]? with
  | none=>rw[hx] at h;cases h
  | some x=>
    rw[hx] at h;simp only[sV] at h;simp only[beq_iff_eq];by_cases h2:x.kd=2
    ·rw[if_pos h2] at h;cases h
    ·rw[if_neg h2] at h;by_cases h4:x.kd=4
     ·rw[if_pos h4] at h;exfalso
      revert h
      generalize eA x.tx=o;unfold DK;split<;>decide
     ·rw[if_neg h4] at h;by_cases h5:x.kd=5
      ·rw[if_pos h5] at h;cases h
      ·rw[if_neg h5] at h;by_cases h6:x.kd=6
       ·exact h6
       ·rw[if_neg h6] at h;cases h
theorem yZ (hL:GL F L) {s:Ps} (h:sg F s.p=120):Gd F.length 2 s (jE F L s)∧s.p<(jE F L s).p∧(jE F L s).l.length+16*s.p+13≤s.l.length+16*(jE F L s).p:=by
  have hw:=Fs h;have h1:=bY (F:=F) (k:=7) (bC hw);have e1:aU F s=aD 7 s:=by unfold aU;rw[if_pos hw]
  have h2:=bX (F:=F) (cs:=[40]) (by decide) h1.1.N;have h3:=bj (F:=F) (c:=41) (by decide) h2.N;have h4:=(h2.trans h3).trans (ar h3.N);rw[←e1] at h1 h4;have hl:(aU F s).l.length=s.l.length+1∧(aU F s).p=s.p+1:=by
    rw[e1];exact⟨by show (dh (s.l++_) _ _).length=_;rw[dr];simp,rfl⟩
  have h5:Gd F.length 1 (ac F (aI F 41 (aG F [40] (aU F s)))) (jE F L s):=by
    unfold jE;exact Gd.ite (fun hc=>(mQ hL (dO hc)).1.mono (by omega)) (fun _=>cO h4.N)
  have h6:=h4.trans h5;have h7:=h6.b;have h8:=h6.p;refine⟨⟨?_,h6.N,?_,?_,h6.up.trans h1.1.up,h6.dp.trans h1.1.dp,(h1.1.trans h6).f⟩,?_,?_⟩
  ·omega
  ·have:=h6.l;omega
  ·omega
  ·omega
  ·omega
theorem lN (hL:GL F L) {s:Ps} (hs:s.p≤F.length):Gd F.length 1 s (gT F L s):=by
  unfold gT;refine Gd.ite (fun hc=>(mQ hL (dO hc)).1.mono (by omega)) (fun _=>Gd.ite (fun hf=>?_) (fun _=>Gd.ite (fun _=>?_) (fun _=>cO hs)))
  ·have hx:sg F s.p=120:=by unfold my at hf;simp at hf;exact hf.1
   refine(Gd.nest (k:=16) (A:=0) fun t ht _=>?_);have h1:=yZ hL (s:=t) (by rw[ht];exact hx);exact⟨h1.1.p,h1.1.N,h1.1.l,by have:=h1.2.2;omega,h1.1.up,h1.1.dp,h1.1.f⟩
  ·exact Gd.node0 (A:=0) fun t ht _=>uR (by omega)
theorem gk (hL:GL F L):∀s:Ps,s.p≤F.length→LC F.length 0 s (if am F [124] s=true then (gT F L (ac F (ai s)),true) else (s,false)):=fun s hs=>
  LC.ite (fun hc=>LC.yes (by
    have h0:=au hc (by decide);have h1:=ar (Gd.next h0).1.N;exact Gd.paid h0 (h1.trans (lN hL h1.N)) (by omega))) (fun _=>LC.no (Gd.refl hs))
theorem rR (hL:GL F L) {s:Ps} (hs:s.p≤F.length):Gd F.length 1 s (ii F L s):=by
  have h1:=bX (F:=F) (cs:=[33]) (by decide) hs;have h2:=lN hL h1.N
  exact((h1.trans h2).trans (Gd.loop (gk hL) _ _ rfl h2.N)).mono (Nat.le_refl _)
theorem lL (hL:GL F L) {s:Ps} (hs:s.p≤F.length):Gd F.length 2 s (jA F L s):=
  Gd.ite (fun _=>Gd.node0 (A:=1) fun t ht _=>rR hL (by omega)) (fun _=>(cO hs).mono (by omega))
theorem mi (hL:GL F L):∀s:Ps,s.p≤F.length→LC F.length 0 s (if am F [97,111] s=true then (jA F L (ac F (ai s)),true) else (s,false)):=fun s hs=>
  LC.ite (fun hc=>LC.yes (by
    have h0:=au hc (by decide);have h1:=ar (Gd.next h0).1.N;exact Gd.paid h0 (h1.trans (lL hL h1.N)) (by omega))) (fun _=>LC.no (Gd.refl hs))
theorem jU (hL:GL F L) {s:Ps} (hs:s.p≤F.length):Gd F.length 2 s (bv F L s):=by
  have h1:=lL hL hs
  exact(h1.trans (Gd.loop (mi hL) _ _ rfl h1.N)).mono (Nat.le_refl _)
theorem gr (hL:GL F L):∀s:Ps,s.p≤F.length→LC F.length 3 s (cR F (an 3 (bv F L) s)):=fun s hs=>by
  have h1:=Gd.node0 (k:=3) (s:=s) (f:=bv F L) (A:=2) (N:=F.length) fun t ht _=>jU hL (by omega)
  have key:∀t,Gd F.length 0 (an 3 (bv F L) s) t→(an 3 (bv F L) s).p<t.p→t.l.length+16*(an 3 (bv F L) s).p+16≤(an 3 (bv F L) s).l.length+16*t.p→∀b,LC F.length 3 s (t,b):=fun t ht hlt hb b=>by
    have h2:=h1.trans ht;have h3:=h1.p;have h4:=h1.b;exact⟨fun _=>⟨⟨h2.p,h2.N,h2.l,by show t.l.length+16*s.p≤s.l.length+16*t.p+0;omega,h2.up,h2.dp,h2.f⟩,by show s.p<t.p;omega⟩,fun _=>h2⟩
  have step:∀r:Ps,r.p<F.length→Gd F.length 0 r (ac F (ai r))∧r.p<(ac F (ai r)).p∧(ac F (ai r)).l.length+16*r.p+16≤r.l.length+16*(ac F (ai r)).p:=fun r hr=>by
    have a:=Gd.next (N:=F.length) hr;have b:=ar a.1.N;exact⟨a.1.trans b,by have:=a.2.1;have:=b.p;omega,by have:=a.2.2;have:=b.b;omega⟩
  unfold cR;refine LC.ite (fun hc=>?_) (fun _=>LC.ite (fun hc=>?_) (fun _=>LC.no h1))
  ·obtain⟨a,b,c⟩:=step _ (au hc (by decide));exact key _ a b c _
  ·have e:ac F (an 3 (bv F L) s)=ac F (ai (an 3 (bv F L) s)):=by
     unfold ac;rw[LC.eq fy _ h1.N];simp only[hc,if_true]
   obtain⟨a,b,c⟩:=step _ (au hc (by decide));rw[e];exact key _ a b c _
theorem Ee (hL:GL F L) {s:Ps} (hs:s.p≤F.length):Gd F.length 3 s (nm F L s):=Gd.loop (gr hL) _ s rfl hs
end
theorem cy (F:List Lf):∀n,GL F (ef F n)
  | 0=>fun s hs=>(Gd.refl hs).mono (by omega)
  | n+1=>fun s hs=>Ee (cy F n) hs
def bV (F:List Lf) (L:Ps→Ps) (x:Ps×Bool):(Ps×Bool)×Bool:=
  if am F [110] x.1=true then ((ai x.1,x.2),true) else if (!x.2&&bH F x.1)=true then ((an 2 L x.1,true),true) else if x.1.p<F.length then ((aD 17 x.1,false),true) else (x,false)
def fJ (x:Ps×Bool):Nat:=2*x.1.p+(if x.2=true then 1 else 0)
def eV (F:List Lf) (L:Ps→Ps) (x:Ps×Bool):Ps×Bool:=iW (bV F L) (2*F.length+2-fJ x) x
theorem BE {F:List Lf} {s:Ps} (h:bH F s=true):s.p<F.length:=by
  refine qN fun e=>?_
  unfold bH lR aX cH am at h;rw[e] at h;simp at h
theorem iN {F:List Lf} {L:Ps→Ps} (hL:GL F L) (x:Ps×Bool) (hx:x.1.p≤F.length) (hc:(bV F L x).2=true):fJ x<fJ (bV F L x).1∧(bV F L x).1.1.p≤F.length∧Gd F.length (if x.2=true then 0 else 4) x.1 (bV F L x).1.1 ∧
    ((bV F L x).1.1.l.length+16*x.1.p+(if (bV F L x).1.2=true then 0 else 4)≤x.1.l.length+16*(bV F L x).1.1.p+(if x.2=true then 0 else 4)):=by
  obtain⟨s,b⟩:=x;replace hx:s.p≤F.length:=hx;unfold bV at hc ⊢;unfold fJ;by_cases h1:am F [110] s=true
  ·have h2:=Gd.next (au h1 (by decide));simp only[h1,if_true];refine⟨?_,h2.1.N,h2.1.mono (by omega),?_⟩
   ·have:=h2.2.1;omega
   ·have:=h2.2.2;omega
  ·simp only[h1,if_false,Bool.false_eq_true] at hc ⊢;by_cases h2:(!b&&bH F s)=true
   ·obtain⟨rfl,h3⟩:b=false∧bH F s=true:=by simpa using h2
    have h4:=Gd.node0 (k:=2) (s:=s) (f:=L) (A:=3) (N:=F.length) fun t ht _=>hL t (by omega)
    simp only[h2,if_true,if_false,Bool.false_eq_true];refine⟨?_,h4.N,h4,?_⟩
    ·have:=h4.p;omega
    ·have:=h4.b;omega
   ·simp only[h2,if_false,Bool.false_eq_true] at hc ⊢;by_cases h3:s.p<F.length
    ·have h4:=bY (F:=F) (k:=17) h3;have e9:(aD 17 s).l.length=s.l.length+1:=by show (dh (s.l++_) _ _).length=_;rw[dr];simp
     have e8:(aD 17 s).p=s.p+1:=rfl;simp only[h3,if_true,if_false,Bool.false_eq_true];refine⟨?_,h4.1.N,h4.2.2.mono (by omega),?_⟩
     ·split<;>omega
     ·split<;>omega
    ·simp only[h3,if_false] at hc
     cases hc
theorem gF {F:List Lf} {x:Ps×Bool} (h:x.1.p≤F.length):fJ x≤2*F.length+1:=by
  unfold fJ;split<;>omega
theorem fI {F:List Lf} {L:Ps→Ps} (hL:GL F L) (x:Ps×Bool) (hx:x.1.p≤F.length):eV F L x=if (bV F L x).2=true then eV F L (bV F L x).1 else (bV F L x).1:=by
  have h0:=gF hx;unfold eV;obtain⟨k,hk⟩:∃k,2*F.length+2-fJ x=k+1:=⟨2*F.length+1-fJ x,by omega⟩;rw[hk];show (if (bV F L x).2=true then iW (bV F L) k (bV F L x).1 else (bV F L x).1)=_;have fuel:∀k k' (y:Ps×Bool),y.1.p≤F.length→2*F.length+1<k+fJ y→2*F.length+1<k'+fJ y→iW (bV F L) k y=iW (bV F L) k' y:=by
    intro k
    induction k with
    | zero=>intro k' y hy h1 h2;have:=gF hy;omega
    | succ k ih=>
      intro k' y hy h1 h2
      cases k' with
      | zero=>have:=gF hy;omega
      | succ k'=>
        unfold iW;by_cases hc:(bV F L y).2=true
        ·have:=iN hL y hy hc
         rw[if_pos hc,if_pos hc,ih k' _ this.2.1 (by omega) (by omega)]
        ·rw[if_neg hc,if_neg hc]
  by_cases hc:(bV F L x).2=true
  ·have:=iN hL x hx hc
   rw[if_pos hc,if_pos hc,fuel k (2*F.length+2-fJ (bV F L x).1) _ this.2.1 (by omega) (by have:=gF this.2.1;omega)]
  ·rw[if_neg hc,if_neg hc]
theorem uS {F:List Lf} {L:Ps→Ps} (hL:GL F L):∀m x,2*F.length+1-fJ x=m→x.1.p≤F.length→Gd F.length (if x.2=true then 0 else 4) x.1 (eV F L x).1∧(eV F L x).1.p=F.length:=by
  intro m
  induction m using Nat.strongRecOn with
  | _ m ih=>
    intro x hm hx;rw[fI hL x hx];by_cases hc:(bV F L x).2=true
    ·have h1:=iN hL x hx hc;have h2:=gF h1.2.1;obtain⟨h3,h4⟩:=ih _ (by omega) _ rfl h1.2.1;rw[if_pos hc];have h5:=h1.2.2.1.trans h3;have h6:=h1.2.2.2;have h7:=h3.b;exact⟨⟨h5.p,h5.N,h5.l,by omega,h5.up,h5.dp,h5.f⟩,h4⟩
    ·rw[if_neg hc];obtain⟨s,b⟩:=x;replace hx:s.p≤F.length:=hx;unfold bV at hc ⊢;by_cases h1:am F [110] s=true
     ·simp[h1] at hc
     ·simp only[h1,if_false,Bool.false_eq_true] at hc ⊢;by_cases h2:(!b&&bH F s)=true
      ·simp[h2] at hc
      ·simp only[h2,if_false,Bool.false_eq_true] at hc ⊢;by_cases h3:s.p<F.length
       ·simp[h3] at hc
       ·simp only[h3,if_false];exact⟨(Gd.refl hx).mono (by omega),by show s.p=_;omega⟩
def eI (a:Nat):Ps:=⟨a,[], -1,0⟩
abbrev iG (F:List Lf):Ps→Ps:=ef F (F.length+1)
def cE (F:List Lf):Ps:=an 1 (fun s=>(eV F (iG F) (s,false)).1) (eI 0)
def cK (F:List Lf) (a:Nat):Ps:=an 3 (bv F (iG F)) (eI a)
theorem yW (F:List Lf):Gd F.length 5 (eI 0) (cE F)∧(cE F).p=F.length:=by
  have h:=fun t (ht:t.p=(eI 0).p)=>uS (cy F (F.length+1)) _ (t,false) rfl (by rw[ht];exact Nat.zero_le _)
  exact⟨Gd.node0 (A:=4) fun t ht _=>(h t ht).1,(h {eI 0 with l:=(eI 0).l++[⟨1,(eI 0).p,0,(eI 0).up⟩],up:=((eI 0).l.length:Int)} rfl).2⟩
theorem Ef (F:List Lf) {a:Nat} (ha:a≤F.length):Gd F.length 3 (eI a) (cK F a):=Gd.node0 (A:=2) fun t ht _=>jU (cy F _) (by rw[ht];exact ha)
end
end Go.Proofs.YtfagdpfgifgnoaaGreatDoor
