/- The parser: what it makes of a row of leaves. No program is in sight. -/
import Derived.Test.YtcagfamdoaoimaaGreatDoorLf9
set_option linter.unusedVariables false
set_option linter.unusedSimpArgs false
set_option maxRecDepth 100000
set_option maxHeartbeats 8000000
namespace Go.Proofs.YtcagfamdoaoimaaGreatDoor
section
def nC (s:List UInt8):UInt8:=
  if s=[33]∨s=[123]∨s=[125] then s.getD 0 0 else if s=[105,102] then 105 else if s=[116,104,101,110] then 116 else if s=[101,108,105,102] then 101
  else if s=[101,108,115,101] then 108 else if s=[102,105] then 102 else if s=[119,104,105,108,101]∨s=[117,110,116,105,108] then 119 else if s=[100,111] then 100
  else if s=[100,111,110,101] then 103 else if s=[102,111,114] then 114 else if s=[105,110] then 107 else if s=[99,97,115,101] then 99 else if s=[101,115,97,99] then 122 else 120
def Do:Nat→UInt8
  | 0=>63|1=>97|2=>111|3=>121|13=>38|14=>59|15=>124|16=>40|17=>41|_=>60
def uL (x:Lf):UInt8:=if x.kd=2 then 110 else if x.kd=4 then Do (iy x.tx) else if x.kd=5 then 35 else if x.kd=6 then nC x.tx else 63
def sg (F:List Lf) (i:Nat):UInt8:=match F[i]? with|some x=>uL x|none=>0
def i4 (F:List Lf) (i:Nat):Bool:=match F[i]? with|some x=>x.kd==6|none=>false
def tx (F:List Lf) (i:Nat):List UInt8:=match F[i]? with|some x=>x.tx|none=>[]
def je (s:List UInt8):Bool:=s != []&&so s 0==s.length
def mP (s:List UInt8):Bool:=so s 0 != 0&&so s 0 != s.length&&s.getD (so s 0) 0==61
structure Nd where
  kd:Nat
  fr:Nat
  tt:Nat
  up:Int
structure Ps where
  p:Nat
  l:List Nd
  up:Int
  deep:Nat
def jm:List Nd→Nat→Nat→List Nd
  | [],_,_=>[]
  | n::r,0,t=>{n with tt:=t}::r
  | n::r,i+1,t=>n::jm r i t
theorem g9:∀(l:List Nd) (i t:Nat),(jm l i t).length=l.length
  | [],_,_=>rfl
  | n::r,0,t=>rfl
  | n::r,i+1,t=>by simp[jm,g9 r i t]
def nR {σ:Type} (c:σ→σ×Bool):Nat→σ→σ
  | 0,s=>s
  | k+1,s=>if (c s).2=true then nR c k (c s).1 else (c s).1
theorem tX {σ:Type} {c:σ→σ×Bool} {m:σ→Nat} {N:Nat} (h:∀s,m s≤N→(c s).2=true→m s<m (c s).1∧m (c s).1≤N):∀k k' s,m s≤N→N<k+m s→N<k'+m s→nR c k s=nR c k' s
  | 0,k',s,h0,h1,h2=>by omega
  | k+1,0,s,h0,h1,h2=>by omega
  | k+1,k'+1,s,h0,h1,h2=>by
    unfold nR;by_cases hc:(c s).2=true
    ·have:=h s h0 hc
     rw[aE hc,aE hc,tX h k k' _ this.2 (by omega) (by omega)]
    ·rw[aB hc,aB hc]
def eQ (N:Nat) (c:Ps→Ps×Bool) (s:Ps):Ps:=nR c (N+1-s.p) s
theorem yK {N:Nat} {c:Ps→Ps×Bool} (h:∀s,s.p≤N→(c s).2=true→s.p<(c s).1.p∧(c s).1.p≤N) (s:Ps) (hs:s.p≤N):eQ N c s=if (c s).2=true then eQ N c (c s).1 else (c s).1:=by
  unfold eQ;obtain⟨k,hk⟩:∃k,N+1-s.p=k+1:=⟨N-s.p,by omega⟩;rw[hk];show (if (c s).2=true then nR c k (c s).1 else (c s).1)=_;by_cases hc:(c s).2=true
  ·have:=h s hs hc
   rw[aE hc,aE hc,tX (m:=Ps.p) h k (N+1-(c s).1.p) _ this.2 (by omega) (by omega)]
  ·rw[aB hc,aB hc]
section
variable (F:List Lf)
def dO (cs:List UInt8) (s:Ps):Bool:=cs.contains (sg F s.p)
def dL (s:Ps):Ps:={s with p:=s.p+1}
def eB (cs:List UInt8) (s:Ps):Ps:=if dO F cs s=true then dL s else s
def dN (k:Nat) (f:Ps→Ps) (s:Ps):Ps:=
  let s2:=f {s with l:=s.l++[⟨k,s.p,0,s.up⟩],up:=(s.l.length:Int)}
  {s2 with up:=s.up,l:=jm s2.l s.l.length s2.p}
def kw (k:Nat) (f:Ps→Ps) (s:Ps):Ps:=
  let s2:=dN k f {s with deep:=s.deep+1}
  {s2 with deep:=s2.deep-1}
def eR (s:Ps):Ps:=dN 18 id s
def eE (c:UInt8) (s:Ps):Ps:=if dO F [c] s=true then dL s else eR s
def eC (k:Nat) (s:Ps):Ps:=dN k dL s
def eD (s:Ps):Ps:=if i4 F s.p=true then eC 7 s else eR s
def dJ (s:Ps):Ps:=eQ F.length (fun s=>if dO F [110] s=true then (dL s,true) else (s,false)) s
def eO (s:Ps):Bool:=sg F s.p==60||sg F s.p==35&&sg F (s.p+1)==60
def gx (s:Ps):Bool:=decide (s.deep<200)&&dO F [123,40,105,119,114,99] s
def oZ (s:Ps):Bool:=sg F s.p==120||(eO F s||gx F s)
def fQ (s:Ps):Bool:=sg F s.p==33||oZ F s
def nV (s:Ps):Bool:=sg F s.p==120&&(sg F (s.p+1)==40&&(decide (s.deep<200)&&je (tx F s.p)))
def fK (s:Ps):Ps:=dN 8 (fun s=>eD F (eB F [60] (eB F [35] s))) s
def gy (s:Ps):Ps:=eQ F.length (fun s=>if eO F s=true then (fK F s,true) else (s,false)) s
def iC (s:Ps):Ps:=eQ F.length (fun s=>if eO F s=true then (fK F s,true) else if i4 F s.p=true then (eC 7 s,true) else (s,false)) s
def fW (s:Ps):Ps:=
  let s1:=eQ F.length (fun s=>if eO F s=true then (fK F s,true) else if (i4 F s.p&&mP (tx F s.p))=true then (eC 6 s,true) else (s,false)) s
  if i4 F s1.p=true then iC F (eC 7 s1) else s1
variable (L:Ps→Ps)
def eN (s:Ps):Ps:=if fQ F (dJ F s)=true then dN 2 L (dJ F s) else eR (dJ F s)
def mN (s:Ps):Ps:=
  let s1:=eQ F.length (fun s=>if dO F [101] s=true then (eN F L (eE F 116 (eN F L (dL s))),true) else (s,false)) (eN F L (eE F 116 (eN F L s)))
  eE F 102 (if dO F [108] s1=true then eN F L (dL s1) else s1)
def xu (s:Ps):Ps:=eE F 103 (eN F L (eE F 100 s))
def iW (s:Ps):Ps:=eQ F.length (fun s=>if i4 F s.p=true then (eC 7 s,true) else (s,false)) s
def vG (s:Ps):Ps:=
  let s1:=iW F (dL s)
  if dO F [59] s1=true then dJ F (dL s1) else if dO F [110] s1=true then dJ F s1 else eR s1
def gu (s:Ps):Ps:=
  let s1:=if (i4 F s.p&&je (tx F s.p))=true then eC 7 s else eR s
  xu F L (if dO F [59] s1=true then dJ F (dL s1) else if dO F [107] (dJ F s1)=true then vG F (dJ F s1) else dJ F s1)
def ef (s:Ps):Ps:=
  let s1:=dJ F (eE F 41 (eQ F.length (fun s=>if dO F [124] s=true then (eD F (dL s),true) else (s,false)) (eD F (eB F [40] s))))
  if fQ F s1=true then dN 2 L s1 else s1
def f7 (s:Ps):Bool:=sg F s.p==40||i4 F s.p&&sg F s.p != 122
def ju (s:Ps):Ps:=
  eE F 122 (eQ F.length (fun s=>if f7 F s=true then (if dO F [121] (dN 15 (ef F L) s)=true then (dJ F (dL (dN 15 (ef F L) s)),true) else (dN 15 (ef F L) s,false)) else (s,false)) (dJ F (eE F 107 (dJ F (eD F s)))))
def nh (c:UInt8) (s:Ps):Ps:=
  if c=40 then eE F 41 (eN F L s) else if c=105 then mN F L s else if c=119 then xu F L (eN F L s) else if c=114 then gu F L s else if c=99 then ju F L s else eE F 125 (eN F L s)
def sG (c:UInt8):Nat:=if c=40 then 10 else if c=105 then 11 else if c=119 then 12 else if c=114 then 13 else if c=99 then 14 else 9
def gW (s:Ps):Ps:=kw (sG (sg F s.p)) (fun t=>gy F (nh F L (sg F s.p) (dL t))) s
def mK (s:Ps):Ps:=
  let s1:=dJ F (eE F 41 (eB F [40] (eD F s)))
  if gx F s1=true then gW F L s1 else eR s1
def i6 (s:Ps):Ps:=if gx F s=true then gW F L s else if nV F s=true then kw 16 (mK F L) s else if oZ F s=true then dN 5 (fW F) s else eR s
def lm (s:Ps):Ps:=eQ F.length (fun s=>if dO F [124] s=true then (i6 F L (dJ F (dL s)),true) else (s,false)) (i6 F L (eB F [33] s))
def kq (s:Ps):Ps:=if fQ F s=true then dN 4 (lm F L) s else eR s
def ff (s:Ps):Ps:=eQ F.length (fun s=>if dO F [97,111] s=true then (kq F L (dJ F (dL s)),true) else (s,false)) (kq F L s)
def iX (s:Ps):Ps×Bool:=if dO F [59,38] s=true then (dJ F (dL s),fQ F (dJ F (dL s))) else if dO F [110] s=true then (dJ F s,fQ F (dJ F s)) else (s,false)
def mE (s:Ps):Ps:=eQ F.length (fun s=>iX F (dN 3 (ff F L) s)) s
end
def wM (F:List Lf):Nat→Ps→Ps
  | 0=>id
  | n+1=>mE F (wM F n)
def NE (k x y:Nat):Prop:=1≤k∧k≤18∧(k=17→y=x+1)∧(k=18→y=x)
inductive Fo:Nat→Int→Nat→Nat→List Nd→Prop
  | nil {b:Nat} {u:Int} {a c:Nat}:a≤c→Fo b u a c []
  | cons {b:Nat} {u:Int} {a c k x y:Nat} {ks r:List Nd}:a≤x→x≤y→NE k x y→Fo (b+1) (b:Int) x y ks→Fo (b+1+ks.length) u y c r→Fo b u a c (⟨k,x,y,u⟩::(ks++r))
theorem Fo.le {b:Nat} {u:Int} {a c:Nat} {l:List Nd} (h:Fo b u a c l):a≤c:=by
  induction h with
  | nil h=>exact h
  | cons h1 h2 _ _ _ _ ih=>omega
theorem Fo.app {b:Nat} {u:Int} {a c:Nat} {l:List Nd} (h:Fo b u a c l):∀{d:Nat} {m:List Nd},Fo (b+l.length) u c d m→Fo b u a d (l++m):=by
  induction h with
  | nil h=>
    intro d m k
    cases k with
    | nil k=>exact .nil (by omega)
    | cons k1 k2 k3 k4 k5=>exact .cons (by omega) k2 k3 k4 k5
  | @cons b u a c k x y ks r h1 h2 h3 h4 h5 _ ih=>
    intro d m hm;rw[bv,cq];refine .cons h1 h2 h3 h4 (ih ?_);simp only[aO,aH] at hm
    rwa [show b+1+ks.length+r.length=b+(ks.length+r.length+1) by omega]
theorem Fo.mono {b:Nat} {u:Int} {a a' c:Nat} {l:List Nd} (h:Fo b u a c l) (ha:a'≤a):Fo b u a' c l:=by
  cases h with
  | nil h=>exact .nil (by omega)
  | cons h1 h2 h3 h4 h5=>exact .cons (by omega) h2 h3 h4 h5
theorem Jq (l:List Nd) (n:Nd) (r:List Nd) (t:Nat):jm (l++n::r) l.length t=l++{n with tt:=t}::r:=by
  induction l with
  | nil=>rfl
  | cons a l ih=>show a::jm (l++n::r) l.length t=_;rw[ih];rfl
structure Gd (N B:Nat) (s t:Ps):Prop where
  p:s.p≤t.p
  N:t.p≤N
  l:s.l.length≤t.l.length
  b:t.l.length+16*s.p≤s.l.length+16*t.p+B
  up:t.up=s.up
  dp:t.deep=s.deep
  f:∃m,t.l=s.l++m∧Fo s.l.length s.up s.p t.p m
theorem Gd.refl {N:Nat} {s:Ps} (h:s.p≤N):Gd N 0 s s:=⟨an _,h,an _,by omega,rfl,rfl,[],by simp,.nil (an _)⟩
theorem Gd.trans {N A B:Nat} {s t u:Ps} (h:Gd N A s t) (k:Gd N B t u):Gd N (A+B) s u:=by
  refine⟨aA h.p k.p,k.N,aA h.l k.l,by have:=h.b;have:=k.b;omega,k.up.trans h.up,k.dp.trans h.dp,?_⟩;obtain⟨m,h1,h2⟩:=h.f;obtain⟨m',k1,k2⟩:=k.f;rw[h.up,h1,aH] at k2;exact⟨m++m',by rw[k1,h1,cq],h2.app k2⟩
theorem Gd.mono {N A B:Nat} {s t:Ps} (h:Gd N A s t) (hab:A≤B):Gd N B s t:=⟨h.p,h.N,h.l,by have:=h.b;omega,h.up,h.dp,h.f⟩
theorem Gd.next {N:Nat} {s:Ps} (h:s.p<N):Gd N 0 s (dL s)∧s.p<(dL s).p∧(dL s).l.length+16*s.p+16≤s.l.length+16*(dL s).p:=⟨⟨bY _,h,an _,by show s.l.length+16*s.p≤s.l.length+16*(s.p+1)+0;omega,rfl,rfl,[],by simp[dL],.nil (bY _)⟩,dj _,by show s.l.length+16*s.p+16≤s.l.length+16*(s.p+1);omega⟩
theorem Gd.paid {N A:Nat} {s t:Ps} (h:s.p<N) (k:Gd N A (dL s) t) (hA:A≤16):Gd N 0 s t∧s.p<t.p:=by
  have h1:=k.p;have h2:=k.b;have h3:(dL s).p=s.p+1:=rfl;have h4:(dL s).l=s.l:=rfl;obtain⟨m,h5,h6⟩:=k.f;rw[h3] at h1 h2 h6;rw[h4] at h2 h5 h6;exact⟨⟨by omega,k.N,by rw[←h4];exact k.l,by omega,k.up,k.dp,m,h5,h6.mono (by omega)⟩,by omega⟩
theorem Gd.node {N A k:Nat} {s:Ps} {f:Ps→Ps} (h:Gd N A {s with l:=s.l++[⟨k,s.p,0,s.up⟩],up:=(s.l.length:Int)} (f {s with l:=s.l++[⟨k,s.p,0,s.up⟩],up:=(s.l.length:Int)})) (hk:NE k s.p (f {s with l:=s.l++[⟨k,s.p,0,s.up⟩],up:=(s.l.length:Int)}).p):Gd N (A+1) s (dN k f s):=by
  have h1:=h.p;have h2:=h.l;have h3:=h.b;obtain⟨m,h4,h5⟩:=h.f;simp only[aH,dC] at h2 h3 h5
  refine⟨h1,h.N,by show _≤(jm _ _ _).length;rw[g9];omega,by show (jm _ _ _).length+_≤_;rw[g9];show _+16*s.p≤s.l.length+16*(f _).p+_;omega,rfl,h.dp,
    ⟨k,s.p,(f {s with l:=s.l++[⟨k,s.p,0,s.up⟩],up:=(s.l.length:Int)}).p,s.up⟩::m,?_,?_⟩
  ·show jm (f {s with l:=s.l++[⟨k,s.p,0,s.up⟩],up:=(s.l.length:Int)}).l s.l.length (f {s with l:=s.l++[⟨k,s.p,0,s.up⟩],up:=(s.l.length:Int)}).p=_;rw[h4,cq,List.singleton_append,Jq]
  ·have:=Fo.cons (u:=s.up) (an s.p) h5.le hk h5 (.nil (an _))
   rw[bM] at this;exact this
theorem Gd.node0 {N A k:Nat} {s:Ps} {f:Ps→Ps} (h:∀t:Ps,t.p=s.p→t.deep=s.deep→Gd N A t (f t)) (hk:1≤k∧k≤16:=by decide):Gd N (A+1) s (dN k f s):=Gd.node (h _ rfl rfl) ⟨hk.1,by omega,fun e=>by omega,fun e=>by omega⟩
theorem Gd.nest {N A k:Nat} {s:Ps} {f:Ps→Ps} (h:∀t:Ps,t.p=s.p→t.deep=s.deep+1→Gd N A t (f t)) (hk:1≤k∧k≤16:=by decide):Gd N (A+1) s (kw k f s):=by
  have h1:=Gd.node0 (k:=k) (s:={s with deep:=s.deep+1}) h hk;exact⟨h1.p,h1.N,h1.l,h1.b,h1.up,by show (dN k f {s with deep:=s.deep+1}).deep-1=s.deep;rw[h1.dp];rfl,h1.f⟩
def LC (N B:Nat) (s:Ps) (r:Ps×Bool):Prop:=(r.2=true→Gd N 0 s r.1∧s.p<r.1.p)∧(r.2=false→Gd N B s r.1)
theorem LC.yes {N B:Nat} {s t:Ps} (h:Gd N 0 s t∧s.p<t.p):LC N B s (t,true):=⟨fun _=>h,fun h=>by cases h⟩
theorem LC.no {N B:Nat} {s t:Ps} (h:Gd N B s t):LC N B s (t,false):=⟨fun h=>(by cases h),fun _=>h⟩
theorem LC.any {N:Nat} {s t:Ps} {b:Bool} (h:Gd N 0 s t∧s.p<t.p):LC N 0 s (t,b):=⟨fun _=>h,fun _=>h.1⟩
theorem LC.ite {N B:Nat} {s:Ps} {r r':Ps×Bool} {b:Bool} (h:b=true→LC N B s r) (k:b=false→LC N B s r'):LC N B s (if b=true then r else r'):=by
  cases b
  ·exact k rfl
  ·exact h rfl
theorem Gd.ite {N B:Nat} {s r r':Ps} {b:Bool} (h:b=true→Gd N B s r) (k:b=false→Gd N B s r'):Gd N B s (if b=true then r else r'):=by
  cases b
  ·exact k rfl
  ·exact h rfl
theorem Gd.loop {N:Nat} {c:Ps→Ps×Bool} {B:Nat} (h:∀s,s.p≤N→LC N B s (c s)):∀m s,N-s.p=m→s.p≤N→Gd N B s (eQ N c s):=by
  intro m
  induction m using Nat.strongRecOn with
  | _ m ih=>
    intro s hm hs;rw[yK (fun s hs hc=>⟨((h s hs).1 hc).2,((h s hs).1 hc).1.N⟩) s hs];by_cases hc:(c s).2=true
    ·rw[aE hc];have h1:=(h s hs).1 hc;have h2:=h1.1.N;simpa using h1.1.trans (ih _ (by omega) _ rfl h2)
    ·rw[aB hc]
     exact(h s hs).2 (by simpa using hc)
theorem LC.eq {N B:Nat} {c:Ps→Ps×Bool} (h:∀s,s.p≤N→LC N B s (c s)) (s:Ps) (hs:s.p≤N):eQ N c s=if (c s).2=true then eQ N c (c s).1 else (c s).1:=
  yK (fun s hs hc=>⟨((h s hs).1 hc).2,((h s hs).1 hc).1.N⟩) s hs
theorem tm {F:List Lf} {i:Nat} (h:sg F i≠0):i<F.length:=by
  unfold sg at h;refine Nat.lt_of_not_le fun hi=>?_
  rw[cx hi] at h;exact h rfl
theorem ek {F:List Lf} {cs:List UInt8} {s:Ps} (hc:dO F cs s=true) (h0:cs.contains 0=false):s.p<F.length:=by
  refine tm fun e=>?_
  unfold dO at hc;rw[e,h0] at hc
  cases hc
theorem fZ {F:List Lf} {i:Nat} (h:i4 F i=true):i<F.length:=by
  unfold i4 at h;refine Nat.lt_of_not_le fun hi=>?_
  rw[cx hi] at h
  cases h
section
variable {F:List Lf}
theorem gD {cs:List UInt8} (h0:cs.contains 0=false) {s:Ps} (hs:s.p≤F.length):Gd F.length 0 s (eB F cs s):=by
  unfold eB;by_cases hc:dO F cs s=true
  ·rw[aE hc];exact(Gd.next (ek hc h0)).1
  ·rw[aB hc];exact Gd.refl hs
theorem ik {s:Ps} (hs:s.p≤F.length):Gd F.length 1 s (eR s):=Gd.node (A:=0) (Gd.refl hs) ⟨by decide,by decide,fun e=>(by cases e),fun _=>rfl⟩
theorem gr {k:Nat} {s:Ps} (hs:s.p<F.length) (hk:1≤k∧k≤17:=by decide):Gd F.length 1 s (eC k s)∧s.p<(eC k s).p∧Gd F.length 0 s (eC k s):=by
  have h:Gd F.length 0 _ _:=(Gd.next (N:=F.length) (s:={s with l:=s.l++[⟨k,s.p,0,s.up⟩],up:=(s.l.length:Int)}) hs).1;have h1:=Gd.node h ⟨hk.1,by omega,fun _=>rfl,fun e=>by omega⟩;refine⟨h1,dj _,h1.p,h1.N,h1.l,?_,h1.up,h1.dp,h1.f⟩;show (jm _ _ _).length+_≤_;rw[g9];show (s.l++_).length+16*s.p≤s.l.length+16*(s.p+1)+0;simp;omega
theorem fO {c:UInt8} (h0:c≠0) {s:Ps} (hs:s.p≤F.length):Gd F.length 1 s (eE F c s):=by
  unfold eE;by_cases hc:dO F [c] s=true
  ·rw[aE hc];exact(Gd.next (ek hc (by simpa using h0.symm))).1.mono (by omega)
  ·rw[aB hc];exact ik hs
theorem ij {s:Ps} (hs:s.p≤F.length):Gd F.length 1 s (eD F s):=by
  unfold eD;by_cases hc:i4 F s.p=true
  ·rw[aE hc];exact(gr (fZ hc)).1
  ·rw[aB hc];exact ik hs
end
section
variable {F:List Lf}
theorem lP:∀s:Ps,s.p≤F.length→LC F.length 0 s (if dO F [110] s=true then (dL s,true) else (s,false)):=fun s hs=>
  LC.ite (fun hc=>LC.yes ⟨(Gd.next (ek hc (by decide))).1,dj _⟩) (fun _=>LC.no (Gd.refl hs))
theorem dZ {s:Ps} (hs:s.p≤F.length):Gd F.length 0 s (dJ F s):=Gd.loop lP _ s rfl hs
theorem tw {s:Ps} (h:eO F s=true):s.p<F.length:=by
  refine tm fun e=>?_
  unfold eO at h;rw[e] at h;simp at h
theorem EO {s:Ps} (h:eO F s=true):s.p<(eB F [60] (eB F [35] s)).p:=by
  unfold eO at h;unfold eB dO;by_cases h1:sg F s.p=60
  ·rw[h1];simp[dL,h1]
  ·have h2:(sg F s.p==60)=false:=by simpa using h1
   rw[h2] at h;have h3:sg F s.p=35∧sg F (s.p+1)=60:=by simpa using h
   rw[h3.1];simp[dL,h3.2];omega
theorem zW (cs:List UInt8) (s:Ps):(eB F cs s).l=s.l:=by
  unfold eB;split<;>rfl
theorem nU {s:Ps} (h:eO F s=true):Gd F.length 0 s (fK F s)∧s.p<(fK F s).p:=by
  have hlt:=tw h;have h1:∀t:Ps,t.p=s.p→Gd F.length 1 t (eD F (eB F [60] (eB F [35] t)))∧t.p<(eD F (eB F [60] (eB F [35] t))).p∧(eD F (eB F [60] (eB F [35] t))).l.length+16*t.p+15≤t.l.length+16*(eD F (eB F [60] (eB F [35] t))).p:=fun t ht=>by
    have ht2:eO F t=true:=by unfold eO at h ⊢;rwa [ht]
    have a:=gD (F:=F) (cs:=[35]) (by decide) (s:=t) (by omega);have b:=gD (F:=F) (cs:=[60]) (by decide) a.N;have c:=ij b.N;have d:=EO ht2;have e:=c.b;rw[zW,zW] at e;exact⟨by simpa using (a.trans b).trans c,bA d c.p,by omega⟩
  have h2:=Gd.node0 (k:=8) (s:=s) fun t ht _=>(h1 t ht).1
  obtain⟨_,h4,h5⟩:=h1 {s with l:=s.l++[⟨8,s.p,0,s.up⟩],up:=(s.l.length:Int)} rfl;refine⟨⟨h2.p,h2.N,h2.l,?_,h2.up,h2.dp,h2.f⟩,h4⟩;simp only[aH,dC] at h5;show (jm _ _ _).length+_≤_;rw[g9];show (eD F (eB F [60] (eB F [35] {s with l:=s.l++[⟨8,s.p,0,s.up⟩],up:=(s.l.length:Int)}))).l.length+16*s.p≤s.l.length+16*(eD F (eB F [60] (eB F [35] {s with l:=s.l++[⟨8,s.p,0,s.up⟩],up:=(s.l.length:Int)}))).p+0;omega
theorem jS:∀s:Ps,s.p≤F.length→LC F.length 0 s (if eO F s=true then (fK F s,true) else (s,false)):=fun s hs=>
  LC.ite (fun hc=>LC.yes (nU hc)) (fun _=>LC.no (Gd.refl hs))
theorem rL {s:Ps} (hs:s.p≤F.length):Gd F.length 0 s (gy F s):=Gd.loop jS _ s rfl hs
theorem mS:∀s:Ps,s.p≤F.length→LC F.length 0 s (if eO F s=true then (fK F s,true) else if i4 F s.p=true then (eC 7 s,true) else (s,false)):=fun s hs=>
  LC.ite (fun hc=>LC.yes (nU hc)) (fun _=>LC.ite (fun hc=>LC.yes ⟨(gr (fZ hc)).2.2,(gr (fZ hc)).2.1⟩) (fun _=>LC.no (Gd.refl hs)))
theorem kH:∀s:Ps,s.p≤F.length→LC F.length 0 s (if eO F s=true then (fK F s,true) else if (i4 F s.p&&mP (tx F s.p))=true then (eC 6 s,true) else (s,false)):=fun s hs=>
  LC.ite (fun hc=>LC.yes (nU hc)) (fun _=>LC.ite (fun hc=>by
    have hc:=fZ ((aX _ _).mp hc).1;exact LC.yes ⟨(gr hc).2.2,(gr hc).2.1⟩) (fun _=>LC.no (Gd.refl hs)))
theorem Gu {s:Ps} (hs:s.p≤F.length):Gd F.length 0 s (iC F s):=Gd.loop mS _ s rfl hs
theorem wQ {s:Ps} (hs:s.p≤F.length):Gd F.length 0 s (fW F s):=by
  have h1:=Gd.loop (kH (F:=F)) _ s rfl hs;refine Gd.ite (fun hc=>?_) (fun _=>h1);have h2:=(gr (F:=F) (k:=7) (fZ hc)).2.2;simpa using (h1.trans h2).trans (Gu h2.N)
variable {L:Ps→Ps}
abbrev GL (F:List Lf) (L:Ps→Ps):Prop:=∀s:Ps,s.p≤F.length→Gd F.length 3 s (L s)
theorem fT (hL:GL F L) {s:Ps} (hs:s.p≤F.length):Gd F.length 4 s (eN F L s):=by
  have h1:=dZ hs;refine Gd.ite (fun _=>?_) (fun _=>?_)
  ·simpa using h1.trans (Gd.node0 (A:=3) fun t ht _=>hL t (by have:=h1.N;omega))
  ·exact(h1.trans (ik h1.N)).mono (by omega)
theorem lD (hL:GL F L):∀s:Ps,s.p≤F.length→LC F.length 0 s (if dO F [101] s=true then (eN F L (eE F 116 (eN F L (dL s))),true) else (s,false)):=fun s hs=>
  LC.ite (fun hc=>LC.yes (by
    have h0:=ek hc (by decide);have h1:=fT hL (Gd.next h0).1.N;have h2:=fO (F:=F) (c:=116) (by decide) h1.N;exact Gd.paid h0 ((h1.trans h2).trans (fT hL h2.N)) (by omega))) (fun _=>LC.no (Gd.refl hs))
theorem JD (hL:GL F L) {s:Ps} (hs:s.p≤F.length):Gd F.length 14 s (mN F L s):=by
  have h1:=fT hL hs;have h2:=fO (F:=F) (c:=116) (by decide) h1.N;have h3:=fT hL h2.N;have h4:=Gd.loop (lD hL) _ _ rfl h3.N;have h5:=((h1.trans h2).trans h3).trans h4;have h6:Gd F.length 4 (eQ F.length (fun s=>if dO F [101] s=true then (eN F L (eE F 116 (eN F L (dL s))),true) else (s,false)) (eN F L (eE F 116 (eN F L s)))) _:=Gd.ite (b:=dO F [108] _) (fun hc=>by
    have h0:=ek hc (by decide)
    exact(Gd.paid h0 (fT hL (Gd.next h0).1.N) (by omega)).1.mono (by omega)) (fun _=>(Gd.refl h5.N).mono (by omega))
  exact(h5.trans h6).trans (fO (F:=F) (c:=102) (by decide) h6.N)
theorem Ky (hL:GL F L) {s:Ps} (hs:s.p≤F.length):Gd F.length 6 s (xu F L s):=by
  have h1:=fO (F:=F) (c:=100) (by decide) hs;have h2:=fT hL h1.N
  exact(h1.trans h2).trans (fO (F:=F) (c:=103) (by decide) h2.N)
theorem iN:∀s:Ps,s.p≤F.length→LC F.length 0 s (if i4 F s.p=true then (eC 7 s,true) else (s,false)):=fun s hs=>
  LC.ite (fun hc=>LC.yes ⟨(gr (fZ hc)).2.2,(gr (fZ hc)).2.1⟩) (fun _=>LC.no (Gd.refl hs))
theorem Gt {s:Ps} (hs:s.p≤F.length):Gd F.length 0 s (iW F s):=Gd.loop iN _ s rfl hs
theorem Na {s:Ps} (hs:s.p<F.length):Gd F.length 1 s (vG F s):=by
  have h0:=(Gd.next (N:=F.length) hs).1;have h1:=h0.trans (Gt h0.N);refine Gd.ite (fun hc=>?_) (fun _=>Gd.ite (fun _=>?_) (fun _=>?_))
  ·have h2:=(Gd.next (ek hc (by decide))).1
   exact((h1.trans h2).trans (dZ h2.N)).mono (by omega)
  ·exact(h1.trans (dZ h1.N)).mono (by omega)
  ·simpa using h1.trans (ik h1.N)
theorem JC (hL:GL F L) {s:Ps} (hs:s.p≤F.length):Gd F.length 8 s (gu F L s):=by
  have h1:Gd F.length 1 s (if (i4 F s.p&&je (tx F s.p))=true then eC 7 s else eR s):=Gd.ite (fun hc=>(gr (fZ ((aX _ _).mp hc).1)).1) (fun _=>ik hs);unfold gu;generalize (if (i4 F s.p&&je (tx F s.p))=true then eC 7 s else eR s)=s1 at h1;have h2:Gd F.length 1 s1 (if dO F [59] s1=true then dJ F (dL s1) else if dO F [107] (dJ F s1)=true then vG F (dJ F s1) else dJ F s1):=by
    have h3:=dZ h1.N;refine Gd.ite (fun hc=>?_) (fun _=>Gd.ite (fun hc=>?_) (fun _=>h3.mono (by omega)))
    ·have h2:=(Gd.next (ek hc (by decide))).1
     exact(h2.trans (dZ h2.N)).mono (by omega)
    ·simpa using h3.trans (Na (ek hc (by decide)))
  exact(h1.trans h2).trans (Ky hL h2.N)
theorem nT:∀s:Ps,s.p≤F.length→LC F.length 0 s (if dO F [124] s=true then (eD F (dL s),true) else (s,false)):=fun s hs=>
  LC.ite (fun hc=>LC.yes (by
    have h0:=ek hc (by decide);exact Gd.paid h0 (ij (Gd.next h0).1.N) (by omega))) (fun _=>LC.no (Gd.refl hs))
theorem sU (hL:GL F L) {s:Ps} (hs:s.p≤F.length):Gd F.length 6 s (ef F L s):=by
  have h1:=gD (F:=F) (cs:=[40]) (by decide) hs;have h2:=ij h1.N;have h3:=Gd.loop nT _ _ rfl h2.N;have h4:=fO (F:=F) (c:=41) (by decide) h3.N;have h5:=(((h1.trans h2).trans h3).trans h4).trans (dZ h4.N);refine Gd.ite (fun _=>?_) (fun _=>h5.mono (by omega));exact h5.trans (Gd.node0 (A:=3) fun t ht _=>hL t (by have:=h5.N;omega))
theorem Jy {s:Ps} (h:f7 F s=true):s.p<F.length:=by
  unfold f7 at h;rcases (dA _ _).mp h with h|h
  ·exact tm fun e=>by rw[e] at h;revert h;decide
  ·exact fZ ((aX _ _).mp h).1
theorem qN (hL:GL F L) {s:Ps} (h:f7 F s=true):Gd F.length 0 s (dN 15 (ef F L) s)∧s.p<(dN 15 (ef F L) s).p:=by
  have hlt:=Jy h;have h1:=Gd.node0 (k:=15) (s:=s) (f:=ef F L) (A:=6) (N:=F.length) fun t ht _=>sU hL (by omega)
  have key:∀t:Ps,t.p=s.p→t.p<(ef F L t).p∧(ef F L t).l.length+16*t.p+10≤t.l.length+16*(ef F L t).p:=fun t e=>by
    have a1:=gD (F:=F) (cs:=[40]) (by decide) (s:=t) (by omega);have a2:=ij a1.N;have a3:=Gd.loop nT _ _ rfl a2.N;have a4:=fO (F:=F) (c:=41) (by decide) a3.N;have a5:=(a3.trans a4).trans (dZ a4.N);have a6:t.p<(eD F (eB F [40] t)).p∧(eD F (eB F [40] t)).l.length+16*t.p+15≤t.l.length+16*(eD F (eB F [40] t)).p:=by
      by_cases hc:dO F [40] t=true
      ·have:(eB F [40] t).p=t.p+1:=by unfold eB;rw[aE hc];rfl
       have:=a2.p
       have h9:=a2.b;rw[zW] at h9;omega
      ·have e2:eB F [40] t=t:=by unfold eB;rw[aB hc]
       rw[e2];unfold f7 at h;have h3:(sg F s.p==40)=false:=by
         unfold dO at hc;rw[e] at hc;simpa using hc
       rw[h3] at h;have h4:i4 F t.p=true:=by rw[e];simp at h;exact h.1
       unfold eD;rw[aE h4];have h8:=(gr (F:=F) (k:=7) (fZ h4)).2.1;refine⟨h8,?_⟩;have e9:(eC 7 t).l.length=t.l.length+1:=by show (jm (t.l++_) _ _).length=_;rw[g9];simp
       have e8:(eC 7 t).p=t.p+1:=rfl;omega
    have a7:=a5.p;have a8:=a5.b;unfold ef;by_cases hp:fQ F (dJ F (eE F 41 (eQ F.length (fun s=>if dO F [124] s=true then (eD F (dL s),true) else (s,false)) (eD F (eB F [40] t)))))=true
    ·rw[aE hp];have h9:=(Gd.node0 (k:=2) (f:=L) (A:=3) (N:=F.length) (s:=(dJ F (eE F 41 (eQ F.length (fun s=>if dO F [124] s=true then (eD F (dL s),true) else (s,false)) (eD F (eB F [40] t)))))) fun t ht _=>hL t (by have:=a5.N;omega))
     have:=h9.p
     have:=h9.b
     omega
    ·rw[aB hp];omega
  obtain⟨h4,h5⟩:=key {s with l:=s.l++[⟨15,s.p,0,s.up⟩],up:=(s.l.length:Int)} rfl;refine⟨⟨h1.p,h1.N,h1.l,?_,h1.up,h1.dp,h1.f⟩,h4⟩;simp only[aH,dC] at h5;show (jm _ _ _).length+_≤_;rw[g9];show (ef F L {s with l:=s.l++[⟨15,s.p,0,s.up⟩],up:=(s.l.length:Int)}).l.length+16*s.p≤s.l.length+16*(ef F L {s with l:=s.l++[⟨15,s.p,0,s.up⟩],up:=(s.l.length:Int)}).p+0;omega
theorem iG (hL:GL F L):∀s:Ps,s.p≤F.length→LC F.length 0 s (if f7 F s=true then (if dO F [121] (dN 15 (ef F L) s)=true then (dJ F (dL (dN 15 (ef F L) s)),true) else (dN 15 (ef F L) s,false)) else (s,false)):=fun s hs=>
  LC.ite (fun hc=>by
    obtain⟨h1,h2⟩:=qN hL hc;refine LC.ite (fun hy=>?_) (fun _=>LC.no h1);have h3:=Gd.next (ek hy (by decide));have h4:=dZ h3.1.N;refine LC.yes ⟨by simpa using (h1.trans h3.1).trans h4,?_⟩
    have:=h3.2.1
    have:=h4.p
    omega) (fun _=>LC.no (Gd.refl hs))
theorem Gx (hL:GL F L) {s:Ps} (hs:s.p≤F.length):Gd F.length 3 s (ju F L s):=by
  have h1:=ij hs;have h2:=dZ h1.N;have h3:=fO (F:=F) (c:=107) (by decide) h2.N;have h4:=dZ h3.N;have h5:=Gd.loop (iG hL) _ _ rfl h4.N
  exact((((h1.trans h2).trans h3).trans h4).trans h5).trans (fO (F:=F) (c:=122) (by decide) h5.N)
theorem ni (hL:GL F L) (c:UInt8) {s:Ps} (hs:s.p≤F.length):Gd F.length 14 s (nh F L c s):=by
  unfold nh;have hb:=fT hL hs
  repeat' split
  ·exact(hb.trans (fO (F:=F) (c:=41) (by decide) hb.N)).mono (by omega)
  ·exact JD hL hs
  ·exact(hb.trans (Ky hL hb.N)).mono (by omega)
  ·exact(JC hL hs).mono (by omega)
  ·exact(Gx hL hs).mono (by omega)
  ·exact(hb.trans (fO (F:=F) (c:=125) (by decide) hb.N)).mono (by omega)
theorem kU {s:Ps} (h:gx F s=true):s.p<F.length:=ek ((aX _ _).mp h).2 (by decide)
theorem J6 (c:UInt8):1≤sG c∧sG c≤16:=by
  unfold sG
  repeat' split
  all_goals omega
theorem Cq (hL:GL F L) {s:Ps} (h:s.p<F.length):Gd F.length 0 s (gW F L s)∧s.p<(gW F L s).p:=by
  have h1:∀t:Ps,t.p=s.p→Gd F.length 14 (dL t) (gy F (nh F L (sg F s.p) (dL t))):=fun t ht=>by
    have h0:=(Gd.next (N:=F.length) (s:=t) (by omega)).1;have h2:=ni hL (sg F s.p) h0.N;simpa using h2.trans (rL h2.N)
  have h3:=Gd.nest (k:=sG (sg F s.p)) (s:=s) (A:=0) (N:=F.length) (f:=fun t=>gy F (nh F L (sg F s.p) (dL t))) (fun t ht _=>(Gd.paid (by omega) (h1 t ht) (by omega)).1) (J6 _);have h4:s.p<(gW F L s).p:=by
    have:=(h1 {s with deep:=s.deep+1,l:=s.l++[⟨sG (sg F s.p),s.p,0,s.up⟩],up:=(s.l.length:Int)} rfl).p
    exact bA (dj _) this
  refine⟨⟨h3.p,h3.N,h3.l,?_,h3.up,h3.dp,h3.f⟩,h4⟩;have hb:=(h1 {s with deep:=s.deep+1,l:=s.l++[⟨sG (sg F s.p),s.p,0,s.up⟩],up:=(s.l.length:Int)} rfl).b;show (jm _ _ _).length+_≤_;rw[g9];have e1:(dL {s with deep:=s.deep+1,l:=s.l++[⟨sG (sg F s.p),s.p,0,s.up⟩],up:=(s.l.length:Int)}).l.length=s.l.length+1:=by simp[dL]
  have e2:(dL {s with deep:=s.deep+1,l:=s.l++[⟨sG (sg F s.p),s.p,0,s.up⟩],up:=(s.l.length:Int)}).p=s.p+1:=rfl;rw[e1,e2] at hb;show (gy F (nh F L (sg F s.p) (dL {s with deep:=s.deep+1,l:=s.l++[⟨sG (sg F s.p),s.p,0,s.up⟩],up:=(s.l.length:Int)}))).l.length+16*s.p≤s.l.length+16*(gy F (nh F L (sg F s.p) (dL {s with deep:=s.deep+1,l:=s.l++[⟨sG (sg F s.p),s.p,0,s.up⟩],up:=(s.l.length:Int)}))).p+0;omega
theorem KA {s:Ps} (h:sg F s.p=120):i4 F s.p=true:=by
  unfold sg at h;unfold i4
  cases hx:F[s.p]? with
  | none=>rw[hx] at h;cases h
  | some x=>
    rw[hx] at h;simp only[uL] at h;simp only[aR];by_cases h2:x.kd=2
    ·rw[aE h2] at h;cases h
    ·rw[aB h2] at h;by_cases h4:x.kd=4
     ·rw[aE h4] at h;exfalso
      revert h
      generalize iy x.tx=o;unfold Do;split<;>decide
     ·rw[aB h4] at h;by_cases h5:x.kd=5
      ·rw[aE h5] at h;cases h
      ·rw[aB h5] at h;by_cases h6:x.kd=6
       ·exact h6
       ·rw[aB h6] at h;cases h
theorem Bj (hL:GL F L) {s:Ps} (h:sg F s.p=120):Gd F.length 2 s (mK F L s)∧s.p<(mK F L s).p∧(mK F L s).l.length+16*s.p+13≤s.l.length+16*(mK F L s).p:=by
  have hw:=KA h;have h1:=gr (F:=F) (k:=7) (fZ hw);have e1:eD F s=eC 7 s:=by unfold eD;rw[aE hw]
  have h2:=gD (F:=F) (cs:=[40]) (by decide) h1.1.N;have h3:=fO (F:=F) (c:=41) (by decide) h2.N;have h4:=(h2.trans h3).trans (dZ h3.N);rw[←e1] at h1 h4;have hl:(eD F s).l.length=s.l.length+1∧(eD F s).p=s.p+1:=by
    rw[e1];exact⟨by show (jm (s.l++_) _ _).length=_;rw[g9];simp,rfl⟩
  have h5:Gd F.length 1 (dJ F (eE F 41 (eB F [40] (eD F s)))) (mK F L s):=by
    unfold mK;exact Gd.ite (fun hc=>(Cq hL (kU hc)).1.mono (by omega)) (fun _=>ik h4.N)
  have h6:=h4.trans h5;have h7:=h6.b;have h8:=h6.p;refine⟨⟨?_,h6.N,?_,?_,h6.up.trans h1.1.up,h6.dp.trans h1.1.dp,(h1.1.trans h6).f⟩,?_,?_⟩
  ·omega
  ·have:=h6.l;omega
  ·omega
  ·omega
  ·omega
theorem wS (hL:GL F L) {s:Ps} (hs:s.p≤F.length):Gd F.length 1 s (i6 F L s):=by
  unfold i6;refine Gd.ite (fun hc=>(Cq hL (kU hc)).1.mono (by omega)) (fun _=>Gd.ite (fun hf=>?_) (fun _=>Gd.ite (fun _=>?_) (fun _=>ik hs)))
  ·have hx:sg F s.p=120:=by unfold nV at hf;simp at hf;exact hf.1
   refine(Gd.nest (k:=16) (A:=0) fun t ht _=>?_);have h1:=Bj hL (s:=t) (by rw[ht];exact hx);exact⟨h1.1.p,h1.1.N,h1.1.l,by have:=h1.2.2;omega,h1.1.up,h1.1.dp,h1.1.f⟩
  ·exact Gd.node0 (A:=0) fun t ht _=>wQ (by omega)
theorem mX (hL:GL F L):∀s:Ps,s.p≤F.length→LC F.length 0 s (if dO F [124] s=true then (i6 F L (dJ F (dL s)),true) else (s,false)):=fun s hs=>
  LC.ite (fun hc=>LC.yes (by
    have h0:=ek hc (by decide);have h1:=dZ (Gd.next h0).1.N;exact Gd.paid h0 (h1.trans (wS hL h1.N)) (by omega))) (fun _=>LC.no (Gd.refl hs))
theorem uh (hL:GL F L) {s:Ps} (hs:s.p≤F.length):Gd F.length 1 s (lm F L s):=by
  have h1:=gD (F:=F) (cs:=[33]) (by decide) hs;have h2:=wS hL h1.N
  exact((h1.trans h2).trans (Gd.loop (mX hL) _ _ rfl h2.N)).mono (an _)
theorem wR (hL:GL F L) {s:Ps} (hs:s.p≤F.length):Gd F.length 2 s (kq F L s):=
  Gd.ite (fun _=>Gd.node0 (A:=1) fun t ht _=>uh hL (by omega)) (fun _=>(ik hs).mono (by omega))
theorem uF (hL:GL F L):∀s:Ps,s.p≤F.length→LC F.length 0 s (if dO F [97,111] s=true then (kq F L (dJ F (dL s)),true) else (s,false)):=fun s hs=>
  LC.ite (fun hc=>LC.yes (by
    have h0:=ek hc (by decide);have h1:=dZ (Gd.next h0).1.N;exact Gd.paid h0 (h1.trans (wR hL h1.N)) (by omega))) (fun _=>LC.no (Gd.refl hs))
theorem pL (hL:GL F L) {s:Ps} (hs:s.p≤F.length):Gd F.length 2 s (ff F L s):=by
  have h1:=wR hL hs
  exact(h1.trans (Gd.loop (uF hL) _ _ rfl h1.N)).mono (an _)
theorem lp (hL:GL F L):∀s:Ps,s.p≤F.length→LC F.length 3 s (iX F (dN 3 (ff F L) s)):=fun s hs=>by
  have h1:=Gd.node0 (k:=3) (s:=s) (f:=ff F L) (A:=2) (N:=F.length) fun t ht _=>pL hL (by omega)
  have key:∀t,Gd F.length 0 (dN 3 (ff F L) s) t→(dN 3 (ff F L) s).p<t.p→t.l.length+16*(dN 3 (ff F L) s).p+16≤(dN 3 (ff F L) s).l.length+16*t.p→∀b,LC F.length 3 s (t,b):=fun t ht hlt hb b=>by
    have h2:=h1.trans ht;have h3:=h1.p;have h4:=h1.b;exact⟨fun _=>⟨⟨h2.p,h2.N,h2.l,by show t.l.length+16*s.p≤s.l.length+16*t.p+0;omega,h2.up,h2.dp,h2.f⟩,by show s.p<t.p;omega⟩,fun _=>h2⟩
  have step:∀r:Ps,r.p<F.length→Gd F.length 0 r (dJ F (dL r))∧r.p<(dJ F (dL r)).p∧(dJ F (dL r)).l.length+16*r.p+16≤r.l.length+16*(dJ F (dL r)).p:=fun r hr=>by
    have a:=Gd.next (N:=F.length) hr;have b:=dZ a.1.N;exact⟨a.1.trans b,by have:=a.2.1;have:=b.p;omega,by have:=a.2.2;have:=b.b;omega⟩
  unfold iX;refine LC.ite (fun hc=>?_) (fun _=>LC.ite (fun hc=>?_) (fun _=>LC.no h1))
  ·obtain⟨a,b,c⟩:=step _ (ek hc (by decide));exact key _ a b c _
  ·have e:dJ F (dN 3 (ff F L) s)=dJ F (dL (dN 3 (ff F L) s)):=by
     unfold dJ;rw[LC.eq lP _ h1.N];simp only[hc,bW]
   obtain⟨a,b,c⟩:=step _ (ek hc (by decide));rw[e];exact key _ a b c _
theorem Gw (hL:GL F L) {s:Ps} (hs:s.p≤F.length):Gd F.length 3 s (mE F L s):=Gd.loop (lp hL) _ s rfl hs
end
theorem lT (F:List Lf):∀n,GL F (wM F n)
  | 0=>fun s hs=>(Gd.refl hs).mono (by omega)
  | n+1=>fun s hs=>Gw (lT F n) hs
def gh (F:List Lf) (L:Ps→Ps) (x:Ps×Bool):(Ps×Bool)×Bool:=
  if dO F [110] x.1=true then ((dL x.1,x.2),true) else if (!x.2&&fQ F x.1)=true then ((dN 2 L x.1,true),true) else if x.1.p<F.length then ((eC 17 x.1,false),true) else (x,false)
def iL (x:Ps×Bool):Nat:=2*x.1.p+(if x.2=true then 1 else 0)
def mj (F:List Lf) (L:Ps→Ps) (x:Ps×Bool):Ps×Bool:=nR (gh F L) (2*F.length+2-iL x) x
theorem B9 {F:List Lf} {s:Ps} (h:fQ F s=true):s.p<F.length:=by
  refine tm fun e=>?_
  unfold fQ oZ eO gx dO at h;rw[e] at h;simp at h
theorem qw {F:List Lf} {L:Ps→Ps} (hL:GL F L) (x:Ps×Bool) (hx:x.1.p≤F.length) (hc:(gh F L x).2=true):iL x<iL (gh F L x).1∧(gh F L x).1.1.p≤F.length∧Gd F.length (if x.2=true then 0 else 4) x.1 (gh F L x).1.1 ∧
    ((gh F L x).1.1.l.length+16*x.1.p+(if (gh F L x).1.2=true then 0 else 4)≤x.1.l.length+16*(gh F L x).1.1.p+(if x.2=true then 0 else 4)):=by
  obtain⟨s,b⟩:=x;replace hx:s.p≤F.length:=hx;unfold gh at hc ⊢;unfold iL;by_cases h1:dO F [110] s=true
  ·have h2:=Gd.next (ek h1 (by decide));simp only[h1,bW];refine⟨?_,h2.1.N,h2.1.mono (by omega),?_⟩
   ·have:=h2.2.1;omega
   ·have:=h2.2.2;omega
  ·simp only[h1,br,aK] at hc ⊢;by_cases h2:(!b&&fQ F s)=true
   ·obtain⟨rfl,h3⟩:b=false∧fQ F s=true:=by simpa using h2
    have h4:=Gd.node0 (k:=2) (s:=s) (f:=L) (A:=3) (N:=F.length) fun t ht _=>hL t (by omega)
    simp only[h2,bW,br,aK];refine⟨?_,h4.N,h4,?_⟩
    ·have:=h4.p;omega
    ·have:=h4.b;omega
   ·simp only[h2,br,aK] at hc ⊢;by_cases h3:s.p<F.length
    ·have h4:=gr (F:=F) (k:=17) h3;have e9:(eC 17 s).l.length=s.l.length+1:=by show (jm (s.l++_) _ _).length=_;rw[g9];simp
     have e8:(eC 17 s).p=s.p+1:=rfl;simp only[h3,bW,br,aK];refine⟨?_,h4.1.N,h4.2.2.mono (by omega),?_⟩
     ·split<;>omega
     ·split<;>omega
    ·simp only[h3,br] at hc
     cases hc
theorem nL {F:List Lf} {x:Ps×Bool} (h:x.1.p≤F.length):iL x≤2*F.length+1:=by
  unfold iL;split<;>omega
theorem tB {F:List Lf} {L:Ps→Ps} (hL:GL F L) (x:Ps×Bool) (hx:x.1.p≤F.length):mj F L x=if (gh F L x).2=true then mj F L (gh F L x).1 else (gh F L x).1:=by
  have h0:=nL hx;unfold mj;obtain⟨k,hk⟩:∃k,2*F.length+2-iL x=k+1:=⟨2*F.length+1-iL x,by omega⟩;rw[hk];show (if (gh F L x).2=true then nR (gh F L) k (gh F L x).1 else (gh F L x).1)=_;have fuel:∀k k' (y:Ps×Bool),y.1.p≤F.length→2*F.length+1<k+iL y→2*F.length+1<k'+iL y→nR (gh F L) k y=nR (gh F L) k' y:=by
    intro k
    induction k with
    | zero=>intro k' y hy h1 h2;have:=nL hy;omega
    | succ k ih=>
      intro k' y hy h1 h2
      cases k' with
      | zero=>have:=nL hy;omega
      | succ k'=>
        unfold nR;by_cases hc:(gh F L y).2=true
        ·have:=qw hL y hy hc
         rw[aE hc,aE hc,ih k' _ this.2.1 (by omega) (by omega)]
        ·rw[aB hc,aB hc]
  by_cases hc:(gh F L x).2=true
  ·have:=qw hL x hx hc
   rw[aE hc,aE hc,fuel k (2*F.length+2-iL (gh F L x).1) _ this.2.1 (by omega) (by have:=nL this.2.1;omega)]
  ·rw[aB hc,aB hc]
theorem qR {F:List Lf} {L:Ps→Ps} (hL:GL F L):∀m x,2*F.length+1-iL x=m→x.1.p≤F.length→Gd F.length (if x.2=true then 0 else 4) x.1 (mj F L x).1∧(mj F L x).1.p=F.length:=by
  intro m
  induction m using Nat.strongRecOn with
  | _ m ih=>
    intro x hm hx;rw[tB hL x hx];by_cases hc:(gh F L x).2=true
    ·have h1:=qw hL x hx hc;have h2:=nL h1.2.1;obtain⟨h3,h4⟩:=ih _ (by omega) _ rfl h1.2.1;rw[aE hc];have h5:=h1.2.2.1.trans h3;have h6:=h1.2.2.2;have h7:=h3.b;exact⟨⟨h5.p,h5.N,h5.l,by omega,h5.up,h5.dp,h5.f⟩,h4⟩
    ·rw[aB hc];obtain⟨s,b⟩:=x;replace hx:s.p≤F.length:=hx;unfold gh at hc ⊢;by_cases h1:dO F [110] s=true
     ·simp[h1] at hc
     ·simp only[h1,br,aK] at hc ⊢;by_cases h2:(!b&&fQ F s)=true
      ·simp[h2] at hc
      ·simp only[h2,br,aK] at hc ⊢;by_cases h3:s.p<F.length
       ·simp[h3] at hc
       ·simp only[h3,br];exact⟨(Gd.refl hx).mono (by omega),by show s.p=_;omega⟩
def ki (a:Nat):Ps:=⟨a,[], -1,0⟩
abbrev MY (F:List Lf):Ps→Ps:=wM F (F.length+1)
def fP (F:List Lf):Ps:=dN 1 (fun s=>(mj F (MY F) (s,false)).1) (ki 0)
theorem Gv (F:List Lf):Gd F.length 5 (ki 0) (fP F)∧(fP F).p=F.length:=by
  have h:=fun t (ht:t.p=(ki 0).p)=>qR (lT F (F.length+1)) _ (t,false) rfl (by rw[ht];exact bK _)
  exact⟨Gd.node0 (A:=4) fun t ht _=>(h t ht).1,(h {ki 0 with l:=(ki 0).l++[⟨1,(ki 0).p,0,(ki 0).up⟩],up:=((ki 0).l.length:Int)} rfl).2⟩
end
end Go.Proofs.YtcagfamdoaoimaaGreatDoor
