/- The parser: what it makes of a row of leaves. No program is in sight. -/
import Derived.Test.YtmclohkaiemnaaaGreatDoorLf9
set_option linter.unusedVariables false
set_option linter.unusedSimpArgs false
set_option maxRecDepth 100000
set_option maxHeartbeats 8000000
namespace Go.Proofs.YtmclohkaiemnaaaGreatDoor
section
def nt (s:List UInt8):UInt8:=
  if s=[33]∨s=[123]∨s=[125] then s.getD 0 0 else if s=[105,102] then 105 else if s=[116,104,101,110] then 116 else if s=[101,108,105,102] then 101
  else if s=[101,108,115,101] then 108 else if s=[102,105] then 102 else if s=[119,104,105,108,101]∨s=[117,110,116,105,108] then 119 else if s=[100,111] then 100
  else if s=[100,111,110,101] then 103 else if s=[102,111,114] then 114 else if s=[105,110] then 107 else if s=[99,97,115,101] then 99 else if s=[101,115,97,99] then 122 else 120
def CX:Nat→UInt8
  | 0=>63|1=>97|2=>111|3=>121|13=>38|14=>59|15=>124|16=>40|17=>41|_=>60
def sA (x:Lf):UInt8:=if x.kd=2 then 110 else if x.kd=4 then CX (iR x.tx) else if x.kd=5 then 35 else if x.kd=6 then nt x.tx else 63
def sg (F:List Lf) (i:Nat):UInt8:=match F[i]? with|some x=>sA x|none=>0
def iw (F:List Lf) (i:Nat):Bool:=match F[i]? with|some x=>x.kd==6|none=>false
def tx (F:List Lf) (i:Nat):List UInt8:=match F[i]? with|some x=>x.tx|none=>[]
def iC (s:List UInt8):Bool:=s != []&&uZ s 0==s.length
def kK (s:List UInt8):Bool:=uZ s 0 != 0&&uZ s 0 != s.length&&s.getD (uZ s 0) 0==61
structure Nd where
  kd:Nat
  fr:Nat
  tt:Nat
  up:Int
structure Ps where
  p:Nat
  l:List Nd
  up:Int
  deep:Nat
def ik:List Nd→Nat→Nat→List Nd
  | [],_,_=>[]
  | n::r,0,t=>{n with tt:=t}::r
  | n::r,i+1,t=>n::ik r i t
theorem ij:∀(l:List Nd) (i t:Nat),(ik l i t).length=l.length
  | [],_,_=>rfl
  | n::r,0,t=>rfl
  | n::r,i+1,t=>by simp[ik,ij r i t]
def nJ {σ:Type} (c:σ→σ×Bool):Nat→σ→σ
  | 0,s=>s
  | k+1,s=>if (c s).2=true then nJ c k (c s).1 else (c s).1
theorem tF {σ:Type} {c:σ→σ×Bool} {m:σ→Nat} {N:Nat} (h:∀s,m s≤N→(c s).2=true→m s<m (c s).1∧m (c s).1≤N):∀k k' s,m s≤N→N<k+m s→N<k'+m s→nJ c k s=nJ c k' s
  | 0,k',s,h0,h1,h2=>by omega
  | k+1,0,s,h0,h1,h2=>by omega
  | k+1,k'+1,s,h0,h1,h2=>by
    unfold nJ;by_cases hc:(c s).2=true
    ·have:=h s h0 hc
     rw[aB hc,aB hc,tF h k k' _ this.2 (by omega) (by omega)]
    ·rw[aC hc,aC hc]
def eV (N:Nat) (c:Ps→Ps×Bool) (s:Ps):Ps:=nJ c (N+1-s.p) s
theorem yw {N:Nat} {c:Ps→Ps×Bool} (h:∀s,s.p≤N→(c s).2=true→s.p<(c s).1.p∧(c s).1.p≤N) (s:Ps) (hs:s.p≤N):eV N c s=if (c s).2=true then eV N c (c s).1 else (c s).1:=by
  unfold eV;obtain⟨k,hk⟩:∃k,N+1-s.p=k+1:=⟨N-s.p,by omega⟩;rw[hk];show (if (c s).2=true then nJ c k (c s).1 else (c s).1)=_;by_cases hc:(c s).2=true
  ·have:=h s hs hc
   rw[aB hc,aB hc,tF (m:=Ps.p) h k (N+1-(c s).1.p) _ this.2 (by omega) (by omega)]
  ·rw[aC hc,aC hc]
section
variable (F:List Lf)
def ef (cs:List UInt8) (s:Ps):Bool:=cs.contains (sg F s.p)
def dY (s:Ps):Ps:={s with p:=s.p+1}
def eG (cs:List UInt8) (s:Ps):Ps:=if ef F cs s=true then dY s else s
def eh (k:Nat) (f:Ps→Ps) (s:Ps):Ps:=
  let s2:=f {s with l:=s.l++[⟨k,s.p,0,s.up⟩],up:=(s.l.length:Int)}
  {s2 with up:=s.up,l:=ik s2.l s.l.length s2.p}
def jI (k:Nat) (f:Ps→Ps) (s:Ps):Ps:=
  let s2:=eh k f {s with deep:=s.deep+1}
  {s2 with deep:=s2.deep-1}
def fe (s:Ps):Ps:=eh 18 id s
def eE (c:UInt8) (s:Ps):Ps:=if ef F [c] s=true then dY s else fe s
def eD (k:Nat) (s:Ps):Ps:=eh k dY s
def eK (s:Ps):Ps:=if iw F s.p=true then eD 7 s else fe s
def dW (s:Ps):Ps:=eV F.length (fun s=>if ef F [110] s=true then (dY s,true) else (s,false)) s
def eS (s:Ps):Bool:=sg F s.p==60||sg F s.p==35&&sg F (s.p+1)==60
def gy (s:Ps):Bool:=decide (s.deep<200)&&ef F [123,40,105,119,114,99] s
def lr (s:Ps):Bool:=sg F s.p==120||(eS F s||gy F s)
def eN (s:Ps):Bool:=sg F s.p==33||lr F s
def lD (s:Ps):Bool:=sg F s.p==120&&(sg F (s.p+1)==40&&(decide (s.deep<200)&&iC (tx F s.p)))
def fH (s:Ps):Ps:=eh 8 (fun s=>eK F (eG F [60] (eG F [35] s))) s
def gH (s:Ps):Ps:=eV F.length (fun s=>if eS F s=true then (fH F s,true) else (s,false)) s
def ir (s:Ps):Ps:=eV F.length (fun s=>if eS F s=true then (fH F s,true) else if iw F s.p=true then (eD 7 s,true) else (s,false)) s
def fV (s:Ps):Ps:=
  let s1:=eV F.length (fun s=>if eS F s=true then (fH F s,true) else if (iw F s.p&&kK (tx F s.p))=true then (eD 6 s,true) else (s,false)) s
  if iw F s1.p=true then ir F (eD 7 s1) else s1
variable (L:Ps→Ps)
def eI (s:Ps):Ps:=if eN F (dW F s)=true then eh 2 L (dW F s) else fe (dW F s)
def ki (s:Ps):Ps:=
  let s1:=eV F.length (fun s=>if ef F [101] s=true then (eI F L (eE F 116 (eI F L (dY s))),true) else (s,false)) (eI F L (eE F 116 (eI F L s)))
  eE F 102 (if ef F [108] s1=true then eI F L (dY s1) else s1)
def vp (s:Ps):Ps:=eE F 103 (eI F L (eE F 100 s))
def jm (s:Ps):Ps:=eV F.length (fun s=>if iw F s.p=true then (eD 7 s,true) else (s,false)) s
def uB (s:Ps):Ps:=
  let s1:=jm F (dY s)
  if ef F [59] s1=true then dW F (dY s1) else if ef F [110] s1=true then dW F s1 else fe s1
def gR (s:Ps):Ps:=
  let s1:=if (iw F s.p&&iC (tx F s.p))=true then eD 7 s else fe s
  vp F L (if ef F [59] s1=true then dW F (dY s1) else if ef F [107] (dW F s1)=true then uB F (dW F s1) else dW F s1)
def eB (s:Ps):Ps:=
  let s1:=dW F (eE F 41 (eV F.length (fun s=>if ef F [124] s=true then (eK F (dY s),true) else (s,false)) (eK F (eG F [40] s))))
  if eN F s1=true then eh 2 L s1 else s1
def gx (s:Ps):Bool:=sg F s.p==40||iw F s.p&&sg F s.p != 122
def ji (s:Ps):Ps:=
  eE F 122 (eV F.length (fun s=>if gx F s=true then (if ef F [121] (eh 15 (eB F L) s)=true then (dW F (dY (eh 15 (eB F L) s)),true) else (eh 15 (eB F L) s,false)) else (s,false)) (dW F (eE F 107 (dW F (eK F s)))))
def lC (c:UInt8) (s:Ps):Ps:=
  if c=40 then eE F 41 (eI F L s) else if c=105 then ki F L s else if c=119 then vp F L (eI F L s) else if c=114 then gR F L s else if c=99 then ji F L s else eE F 125 (eI F L s)
def sF (c:UInt8):Nat:=if c=40 then 10 else if c=105 then 11 else if c=119 then 12 else if c=114 then 13 else if c=99 then 14 else 9
def g9 (s:Ps):Ps:=jI (sF (sg F s.p)) (fun t=>gH F (lC F L (sg F s.p) (dY t))) s
def lm (s:Ps):Ps:=
  let s1:=dW F (eE F 41 (eG F [40] (eK F s)))
  if gy F s1=true then g9 F L s1 else fe s1
def iL (s:Ps):Ps:=if gy F s=true then g9 F L s else if lD F s=true then jI 16 (lm F L) s else if lr F s=true then eh 5 (fV F) s else fe s
def jo (s:Ps):Ps:=eV F.length (fun s=>if ef F [124] s=true then (iL F L (dW F (dY s)),true) else (s,false)) (iL F L (eG F [33] s))
def jA (s:Ps):Ps:=if eN F s=true then eh 4 (jo F L) s else fe s
def eW (s:Ps):Ps:=eV F.length (fun s=>if ef F [97,111] s=true then (jA F L (dW F (dY s)),true) else (s,false)) (jA F L s)
def gj (s:Ps):Ps×Bool:=if ef F [59,38] s=true then (dW F (dY s),eN F (dW F (dY s))) else if ef F [110] s=true then (dW F s,eN F (dW F s)) else (s,false)
def kw (s:Ps):Ps:=eV F.length (fun s=>gj F (eh 3 (eW F L) s)) s
end
def je (F:List Lf):Nat→Ps→Ps
  | 0=>id
  | n+1=>kw F (je F n)
def Ov (k x y:Nat):Prop:=1≤k∧k≤18∧(k=17→y=x+1)∧(k=18→y=x)
inductive Fo:Nat→Int→Nat→Nat→List Nd→Prop
  | nil {b:Nat} {u:Int} {a c:Nat}:a≤c→Fo b u a c []
  | cons {b:Nat} {u:Int} {a c k x y:Nat} {ks r:List Nd}:a≤x→x≤y→Ov k x y→Fo (b+1) (b:Int) x y ks→Fo (b+1+ks.length) u y c r→Fo b u a c (⟨k,x,y,u⟩::(ks++r))
theorem Fo.le {b:Nat} {u:Int} {a c:Nat} {l:List Nd} (h:Fo b u a c l):a≤c:=by
  induction h with
  | nil h=>exact h
  | cons h1 h2 _ _ _ _ ih=>omega
theorem Fo.app {b:Nat} {u:Int} {a c:Nat} {l:List Nd} (h:Fo b u a c l):∀{d:Nat} {m:List Nd},Fo (b+l.length) u c d m→Fo b u a d (l++m):=by
  induction h with
  | nil h=>
    intro d m k
    cases k with
    | nil k=>exact .nil (by omega)
    | cons k1 k2 k3 k4 k5=>exact .cons (by omega) k2 k3 k4 k5
  | @cons b u a c k x y ks r h1 h2 h3 h4 h5 _ ih=>
    intro d m hm;rw[bH,aW];refine .cons h1 h2 h3 h4 (ih ?_);simp only[aL,aD] at hm
    rwa [show b+1+ks.length+r.length=b+(ks.length+r.length+1) by omega]
theorem Fo.mono {b:Nat} {u:Int} {a a' c:Nat} {l:List Nd} (h:Fo b u a c l) (ha:a'≤a):Fo b u a' c l:=by
  cases h with
  | nil h=>exact .nil (by omega)
  | cons h1 h2 h3 h4 h5=>exact .cons (by omega) h2 h3 h4 h5
theorem lL (l:List Nd) (n:Nd) (r:List Nd) (t:Nat):ik (l++n::r) l.length t=l++{n with tt:=t}::r:=by
  induction l with
  | nil=>rfl
  | cons a l ih=>show a::ik (l++n::r) l.length t=_;rw[ih];rfl
structure Gd (N B:Nat) (s t:Ps):Prop where
  p:s.p≤t.p
  N:t.p≤N
  l:s.l.length≤t.l.length
  b:t.l.length+16*s.p≤s.l.length+16*t.p+B
  up:t.up=s.up
  dp:t.deep=s.deep
  f:∃m,t.l=s.l++m∧Fo s.l.length s.up s.p t.p m
theorem Gd.refl {N:Nat} {s:Ps} (h:s.p≤N):Gd N 0 s s:=⟨au _,h,au _,by omega,rfl,rfl,[],by simp,.nil (au _)⟩
theorem Gd.trans {N A B:Nat} {s t u:Ps} (h:Gd N A s t) (k:Gd N B t u):Gd N (A+B) s u:=by
  refine⟨aA h.p k.p,k.N,aA h.l k.l,by have:=h.b;have:=k.b;omega,k.up.trans h.up,k.dp.trans h.dp,?_⟩;obtain⟨m,h1,h2⟩:=h.f;obtain⟨m',k1,k2⟩:=k.f;rw[h.up,h1,aD] at k2;exact⟨m++m',by rw[k1,h1,aW],h2.app k2⟩
theorem Gd.mono {N A B:Nat} {s t:Ps} (h:Gd N A s t) (hab:A≤B):Gd N B s t:=⟨h.p,h.N,h.l,by have:=h.b;omega,h.up,h.dp,h.f⟩
theorem Gd.next {N:Nat} {s:Ps} (h:s.p<N):Gd N 0 s (dY s)∧s.p<(dY s).p∧(dY s).l.length+16*s.p+16≤s.l.length+16*(dY s).p:=⟨⟨bW _,h,au _,by show s.l.length+16*s.p≤s.l.length+16*(s.p+1)+0;omega,rfl,rfl,[],by simp[dY],.nil (bW _)⟩,dM _,by show s.l.length+16*s.p+16≤s.l.length+16*(s.p+1);omega⟩
theorem Gd.paid {N A:Nat} {s t:Ps} (h:s.p<N) (k:Gd N A (dY s) t) (hA:A≤16):Gd N 0 s t∧s.p<t.p:=by
  have h1:=k.p;have h2:=k.b;have h3:(dY s).p=s.p+1:=rfl;have h4:(dY s).l=s.l:=rfl;obtain⟨m,h5,h6⟩:=k.f;rw[h3] at h1 h2 h6;rw[h4] at h2 h5 h6;exact⟨⟨by omega,k.N,by rw[←h4];exact k.l,by omega,k.up,k.dp,m,h5,h6.mono (by omega)⟩,by omega⟩
theorem Gd.node {N A k:Nat} {s:Ps} {f:Ps→Ps} (h:Gd N A {s with l:=s.l++[⟨k,s.p,0,s.up⟩],up:=(s.l.length:Int)} (f {s with l:=s.l++[⟨k,s.p,0,s.up⟩],up:=(s.l.length:Int)})) (hk:Ov k s.p (f {s with l:=s.l++[⟨k,s.p,0,s.up⟩],up:=(s.l.length:Int)}).p):Gd N (A+1) s (eh k f s):=by
  have h1:=h.p;have h2:=h.l;have h3:=h.b;obtain⟨m,h4,h5⟩:=h.f;simp only[aD,bU] at h2 h3 h5
  refine⟨h1,h.N,by show _≤(ik _ _ _).length;rw[ij];omega,by show (ik _ _ _).length+_≤_;rw[ij];show _+16*s.p≤s.l.length+16*(f _).p+_;omega,rfl,h.dp,
    ⟨k,s.p,(f {s with l:=s.l++[⟨k,s.p,0,s.up⟩],up:=(s.l.length:Int)}).p,s.up⟩::m,?_,?_⟩
  ·show ik (f {s with l:=s.l++[⟨k,s.p,0,s.up⟩],up:=(s.l.length:Int)}).l s.l.length (f {s with l:=s.l++[⟨k,s.p,0,s.up⟩],up:=(s.l.length:Int)}).p=_;rw[h4,aW,List.singleton_append,lL]
  ·have:=Fo.cons (u:=s.up) (au s.p) h5.le hk h5 (.nil (au _))
   rw[bB] at this;exact this
theorem Gd.node0 {N A k:Nat} {s:Ps} {f:Ps→Ps} (h:∀t:Ps,t.p=s.p→t.deep=s.deep→Gd N A t (f t)) (hk:1≤k∧k≤16:=by decide):Gd N (A+1) s (eh k f s):=Gd.node (h _ rfl rfl) ⟨hk.1,by omega,fun e=>by omega,fun e=>by omega⟩
theorem Gd.nest {N A k:Nat} {s:Ps} {f:Ps→Ps} (h:∀t:Ps,t.p=s.p→t.deep=s.deep+1→Gd N A t (f t)) (hk:1≤k∧k≤16:=by decide):Gd N (A+1) s (jI k f s):=by
  have h1:=Gd.node0 (k:=k) (s:={s with deep:=s.deep+1}) h hk;exact⟨h1.p,h1.N,h1.l,h1.b,h1.up,by show (eh k f {s with deep:=s.deep+1}).deep-1=s.deep;rw[h1.dp];rfl,h1.f⟩
def LC (N B:Nat) (s:Ps) (r:Ps×Bool):Prop:=(r.2=true→Gd N 0 s r.1∧s.p<r.1.p)∧(r.2=false→Gd N B s r.1)
theorem LC.yes {N B:Nat} {s t:Ps} (h:Gd N 0 s t∧s.p<t.p):LC N B s (t,true):=⟨fun _=>h,fun h=>by cases h⟩
theorem LC.no {N B:Nat} {s t:Ps} (h:Gd N B s t):LC N B s (t,false):=⟨fun h=>(by cases h),fun _=>h⟩
theorem LC.any {N:Nat} {s t:Ps} {b:Bool} (h:Gd N 0 s t∧s.p<t.p):LC N 0 s (t,b):=⟨fun _=>h,fun _=>h.1⟩
theorem LC.ite {N B:Nat} {s:Ps} {r r':Ps×Bool} {b:Bool} (h:b=true→LC N B s r) (k:b=false→LC N B s r'):LC N B s (if b=true then r else r'):=by
  cases b
  ·exact k rfl
  ·exact h rfl
theorem Gd.ite {N B:Nat} {s r r':Ps} {b:Bool} (h:b=true→Gd N B s r) (k:b=false→Gd N B s r'):Gd N B s (if b=true then r else r'):=by
  cases b
  ·exact k rfl
  ·exact h rfl
theorem Gd.loop {N:Nat} {c:Ps→Ps×Bool} {B:Nat} (h:∀s,s.p≤N→LC N B s (c s)):∀m s,N-s.p=m→s.p≤N→Gd N B s (eV N c s):=by
  intro m
  induction m using Nat.strongRecOn with
  | _ m ih=>
    intro s hm hs;rw[yw (fun s hs hc=>⟨((h s hs).1 hc).2,((h s hs).1 hc).1.N⟩) s hs];by_cases hc:(c s).2=true
    ·rw[aB hc];have h1:=(h s hs).1 hc;have h2:=h1.1.N;simpa using h1.1.trans (ih _ (by omega) _ rfl h2)
    ·rw[aC hc]
     exact(h s hs).2 (by simpa using hc)
theorem LC.eq {N B:Nat} {c:Ps→Ps×Bool} (h:∀s,s.p≤N→LC N B s (c s)) (s:Ps) (hs:s.p≤N):eV N c s=if (c s).2=true then eV N c (c s).1 else (c s).1:=
  yw (fun s hs hc=>⟨((h s hs).1 hc).2,((h s hs).1 hc).1.N⟩) s hs
theorem oV {F:List Lf} {i:Nat} (h:sg F i≠0):i<F.length:=by
  unfold sg at h;refine Nat.lt_of_not_le fun hi=>?_
  rw[bI hi] at h;exact h rfl
theorem er {F:List Lf} {cs:List UInt8} {s:Ps} (hc:ef F cs s=true) (h0:cs.contains 0=false):s.p<F.length:=by
  refine oV fun e=>?_
  unfold ef at hc;rw[e,h0] at hc
  cases hc
theorem fO {F:List Lf} {i:Nat} (h:iw F i=true):i<F.length:=by
  unfold iw at h;refine Nat.lt_of_not_le fun hi=>?_
  rw[bI hi] at h
  cases h
section
variable {F:List Lf}
theorem fJ {cs:List UInt8} (h0:cs.contains 0=false) {s:Ps} (hs:s.p≤F.length):Gd F.length 0 s (eG F cs s):=by
  unfold eG;by_cases hc:ef F cs s=true
  ·rw[aB hc];exact(Gd.next (er hc h0)).1
  ·rw[aC hc];exact Gd.refl hs
theorem gV {s:Ps} (hs:s.p≤F.length):Gd F.length 1 s (fe s):=Gd.node (A:=0) (Gd.refl hs) ⟨by decide,by decide,fun e=>(by cases e),fun _=>rfl⟩
theorem fR {k:Nat} {s:Ps} (hs:s.p<F.length) (hk:1≤k∧k≤17:=by decide):Gd F.length 1 s (eD k s)∧s.p<(eD k s).p∧Gd F.length 0 s (eD k s):=by
  have h:Gd F.length 0 _ _:=(Gd.next (N:=F.length) (s:={s with l:=s.l++[⟨k,s.p,0,s.up⟩],up:=(s.l.length:Int)}) hs).1;have h1:=Gd.node h ⟨hk.1,by omega,fun _=>rfl,fun e=>by omega⟩;refine⟨h1,dM _,h1.p,h1.N,h1.l,?_,h1.up,h1.dp,h1.f⟩;show (ik _ _ _).length+_≤_;rw[ij];show (s.l++_).length+16*s.p≤s.l.length+16*(s.p+1)+0;simp;omega
theorem fp {c:UInt8} (h0:c≠0) {s:Ps} (hs:s.p≤F.length):Gd F.length 1 s (eE F c s):=by
  unfold eE;by_cases hc:ef F [c] s=true
  ·rw[aB hc];exact(Gd.next (er hc (by simpa using h0.symm))).1.mono (by omega)
  ·rw[aC hc];exact gV hs
theorem gK {s:Ps} (hs:s.p≤F.length):Gd F.length 1 s (eK F s):=by
  unfold eK;by_cases hc:iw F s.p=true
  ·rw[aB hc];exact(fR (fO hc)).1
  ·rw[aC hc];exact gV hs
end
section
variable {F:List Lf}
theorem i7:∀s:Ps,s.p≤F.length→LC F.length 0 s (if ef F [110] s=true then (dY s,true) else (s,false)):=fun s hs=>
  LC.ite (fun hc=>LC.yes ⟨(Gd.next (er hc (by decide))).1,dM _⟩) (fun _=>LC.no (Gd.refl hs))
theorem ej {s:Ps} (hs:s.p≤F.length):Gd F.length 0 s (dW F s):=Gd.loop i7 _ s rfl hs
theorem tr {s:Ps} (h:eS F s=true):s.p<F.length:=by
  refine oV fun e=>?_
  unfold eS at h;rw[e] at h;simp at h
theorem Eu {s:Ps} (h:eS F s=true):s.p<(eG F [60] (eG F [35] s)).p:=by
  unfold eS at h;unfold eG ef;by_cases h1:sg F s.p=60
  ·rw[h1];simp[dY,h1]
  ·have h2:(sg F s.p==60)=false:=by simpa using h1
   rw[h2] at h;have h3:sg F s.p=35∧sg F (s.p+1)=60:=by simpa using h
   rw[h3.1];simp[dY,h3.2];omega
theorem zF (cs:List UInt8) (s:Ps):(eG F cs s).l=s.l:=by
  unfold eG;split<;>rfl
theorem mA {s:Ps} (h:eS F s=true):Gd F.length 0 s (fH F s)∧s.p<(fH F s).p:=by
  have hlt:=tr h;have h1:∀t:Ps,t.p=s.p→Gd F.length 1 t (eK F (eG F [60] (eG F [35] t)))∧t.p<(eK F (eG F [60] (eG F [35] t))).p∧(eK F (eG F [60] (eG F [35] t))).l.length+16*t.p+15≤t.l.length+16*(eK F (eG F [60] (eG F [35] t))).p:=fun t ht=>by
    have ht2:eS F t=true:=by unfold eS at h ⊢;rwa [ht]
    have a:=fJ (F:=F) (cs:=[35]) (by decide) (s:=t) (by omega);have b:=fJ (F:=F) (cs:=[60]) (by decide) a.N;have c:=gK b.N;have d:=Eu ht2;have e:=c.b;rw[zF,zF] at e;exact⟨by simpa using (a.trans b).trans c,bQ d c.p,by omega⟩
  have h2:=Gd.node0 (k:=8) (s:=s) fun t ht _=>(h1 t ht).1
  obtain⟨_,h4,h5⟩:=h1 {s with l:=s.l++[⟨8,s.p,0,s.up⟩],up:=(s.l.length:Int)} rfl;refine⟨⟨h2.p,h2.N,h2.l,?_,h2.up,h2.dp,h2.f⟩,h4⟩;simp only[aD,bU] at h5;show (ik _ _ _).length+_≤_;rw[ij];show (eK F (eG F [60] (eG F [35] {s with l:=s.l++[⟨8,s.p,0,s.up⟩],up:=(s.l.length:Int)}))).l.length+16*s.p≤s.l.length+16*(eK F (eG F [60] (eG F [35] {s with l:=s.l++[⟨8,s.p,0,s.up⟩],up:=(s.l.length:Int)}))).p+0;omega
theorem iV:∀s:Ps,s.p≤F.length→LC F.length 0 s (if eS F s=true then (fH F s,true) else (s,false)):=fun s hs=>
  LC.ite (fun hc=>LC.yes (mA hc)) (fun _=>LC.no (Gd.refl hs))
theorem mz {s:Ps} (hs:s.p≤F.length):Gd F.length 0 s (gH F s):=Gd.loop iV _ s rfl hs
theorem jy:∀s:Ps,s.p≤F.length→LC F.length 0 s (if eS F s=true then (fH F s,true) else if iw F s.p=true then (eD 7 s,true) else (s,false)):=fun s hs=>
  LC.ite (fun hc=>LC.yes (mA hc)) (fun _=>LC.ite (fun hc=>LC.yes ⟨(fR (fO hc)).2.2,(fR (fO hc)).2.1⟩) (fun _=>LC.no (Gd.refl hs)))
theorem ib:∀s:Ps,s.p≤F.length→LC F.length 0 s (if eS F s=true then (fH F s,true) else if (iw F s.p&&kK (tx F s.p))=true then (eD 6 s,true) else (s,false)):=fun s hs=>
  LC.ite (fun hc=>LC.yes (mA hc)) (fun _=>LC.ite (fun hc=>by
    have hc:=fO ((aR _ _).mp hc).1;exact LC.yes ⟨(fR hc).2.2,(fR hc).2.1⟩) (fun _=>LC.no (Gd.refl hs)))
theorem qz {s:Ps} (hs:s.p≤F.length):Gd F.length 0 s (ir F s):=Gd.loop jy _ s rfl hs
theorem wK {s:Ps} (hs:s.p≤F.length):Gd F.length 0 s (fV F s):=by
  have h1:=Gd.loop (ib (F:=F)) _ s rfl hs;refine Gd.ite (fun hc=>?_) (fun _=>h1);have h2:=(fR (F:=F) (k:=7) (fO hc)).2.2;simpa using (h1.trans h2).trans (qz h2.N)
variable {L:Ps→Ps}
abbrev GL (F:List Lf) (L:Ps→Ps):Prop:=∀s:Ps,s.p≤F.length→Gd F.length 3 s (L s)
theorem fy (hL:GL F L) {s:Ps} (hs:s.p≤F.length):Gd F.length 4 s (eI F L s):=by
  have h1:=ej hs;refine Gd.ite (fun _=>?_) (fun _=>?_)
  ·simpa using h1.trans (Gd.node0 (A:=3) fun t ht _=>hL t (by have:=h1.N;omega))
  ·exact(h1.trans (gV h1.N)).mono (by omega)
theorem iZ (hL:GL F L):∀s:Ps,s.p≤F.length→LC F.length 0 s (if ef F [101] s=true then (eI F L (eE F 116 (eI F L (dY s))),true) else (s,false)):=fun s hs=>
  LC.ite (fun hc=>LC.yes (by
    have h0:=er hc (by decide);have h1:=fy hL (Gd.next h0).1.N;have h2:=fp (F:=F) (c:=116) (by decide) h1.N;exact Gd.paid h0 ((h1.trans h2).trans (fy hL h2.N)) (by omega))) (fun _=>LC.no (Gd.refl hs))
theorem JQ (hL:GL F L) {s:Ps} (hs:s.p≤F.length):Gd F.length 14 s (ki F L s):=by
  have h1:=fy hL hs;have h2:=fp (F:=F) (c:=116) (by decide) h1.N;have h3:=fy hL h2.N;have h4:=Gd.loop (iZ hL) _ _ rfl h3.N;have h5:=((h1.trans h2).trans h3).trans h4;have h6:Gd F.length 4 (eV F.length (fun s=>if ef F [101] s=true then (eI F L (eE F 116 (eI F L (dY s))),true) else (s,false)) (eI F L (eE F 116 (eI F L s)))) _:=Gd.ite (b:=ef F [108] _) (fun hc=>by
    have h0:=er hc (by decide)
    exact(Gd.paid h0 (fy hL (Gd.next h0).1.N) (by omega)).1.mono (by omega)) (fun _=>(Gd.refl h5.N).mono (by omega))
  exact(h5.trans h6).trans (fp (F:=F) (c:=102) (by decide) h6.N)
theorem B5 (hL:GL F L) {s:Ps} (hs:s.p≤F.length):Gd F.length 6 s (vp F L s):=by
  have h1:=fp (F:=F) (c:=100) (by decide) hs;have h2:=fy hL h1.N
  exact(h1.trans h2).trans (fp (F:=F) (c:=103) (by decide) h2.N)
theorem ix:∀s:Ps,s.p≤F.length→LC F.length 0 s (if iw F s.p=true then (eD 7 s,true) else (s,false)):=fun s hs=>
  LC.ite (fun hc=>LC.yes ⟨(fR (fO hc)).2.2,(fR (fO hc)).2.1⟩) (fun _=>LC.no (Gd.refl hs))
theorem yH {s:Ps} (hs:s.p≤F.length):Gd F.length 0 s (jm F s):=Gd.loop ix _ s rfl hs
theorem F9 {s:Ps} (hs:s.p<F.length):Gd F.length 1 s (uB F s):=by
  have h0:=(Gd.next (N:=F.length) hs).1;have h1:=h0.trans (yH h0.N);refine Gd.ite (fun hc=>?_) (fun _=>Gd.ite (fun _=>?_) (fun _=>?_))
  ·have h2:=(Gd.next (er hc (by decide))).1
   exact((h1.trans h2).trans (ej h2.N)).mono (by omega)
  ·exact(h1.trans (ej h1.N)).mono (by omega)
  ·simpa using h1.trans (gV h1.N)
theorem JP (hL:GL F L) {s:Ps} (hs:s.p≤F.length):Gd F.length 8 s (gR F L s):=by
  have h1:Gd F.length 1 s (if (iw F s.p&&iC (tx F s.p))=true then eD 7 s else fe s):=Gd.ite (fun hc=>(fR (fO ((aR _ _).mp hc).1)).1) (fun _=>gV hs);unfold gR;generalize (if (iw F s.p&&iC (tx F s.p))=true then eD 7 s else fe s)=s1 at h1;have h2:Gd F.length 1 s1 (if ef F [59] s1=true then dW F (dY s1) else if ef F [107] (dW F s1)=true then uB F (dW F s1) else dW F s1):=by
    have h3:=ej h1.N;refine Gd.ite (fun hc=>?_) (fun _=>Gd.ite (fun hc=>?_) (fun _=>h3.mono (by omega)))
    ·have h2:=(Gd.next (er hc (by decide))).1
     exact(h2.trans (ej h2.N)).mono (by omega)
    ·simpa using h3.trans (F9 (er hc (by decide)))
  exact(h1.trans h2).trans (B5 hL h2.N)
theorem ke:∀s:Ps,s.p≤F.length→LC F.length 0 s (if ef F [124] s=true then (eK F (dY s),true) else (s,false)):=fun s hs=>
  LC.ite (fun hc=>LC.yes (by
    have h0:=er hc (by decide);exact Gd.paid h0 (gK (Gd.next h0).1.N) (by omega))) (fun _=>LC.no (Gd.refl hs))
theorem sV (hL:GL F L) {s:Ps} (hs:s.p≤F.length):Gd F.length 6 s (eB F L s):=by
  have h1:=fJ (F:=F) (cs:=[40]) (by decide) hs;have h2:=gK h1.N;have h3:=Gd.loop ke _ _ rfl h2.N;have h4:=fp (F:=F) (c:=41) (by decide) h3.N;have h5:=(((h1.trans h2).trans h3).trans h4).trans (ej h4.N);refine Gd.ite (fun _=>?_) (fun _=>h5.mono (by omega));exact h5.trans (Gd.node0 (A:=3) fun t ht _=>hL t (by have:=h5.N;omega))
theorem JK {s:Ps} (h:gx F s=true):s.p<F.length:=by
  unfold gx at h;rcases (dU _ _).mp h with h|h
  ·exact oV fun e=>by rw[e] at h;revert h;decide
  ·exact fO ((aR _ _).mp h).1
theorem oF (hL:GL F L) {s:Ps} (h:gx F s=true):Gd F.length 0 s (eh 15 (eB F L) s)∧s.p<(eh 15 (eB F L) s).p:=by
  have hlt:=JK h;have h1:=Gd.node0 (k:=15) (s:=s) (f:=eB F L) (A:=6) (N:=F.length) fun t ht _=>sV hL (by omega)
  have key:∀t:Ps,t.p=s.p→t.p<(eB F L t).p∧(eB F L t).l.length+16*t.p+10≤t.l.length+16*(eB F L t).p:=fun t e=>by
    have a1:=fJ (F:=F) (cs:=[40]) (by decide) (s:=t) (by omega);have a2:=gK a1.N;have a3:=Gd.loop ke _ _ rfl a2.N;have a4:=fp (F:=F) (c:=41) (by decide) a3.N;have a5:=(a3.trans a4).trans (ej a4.N);have a6:t.p<(eK F (eG F [40] t)).p∧(eK F (eG F [40] t)).l.length+16*t.p+15≤t.l.length+16*(eK F (eG F [40] t)).p:=by
      by_cases hc:ef F [40] t=true
      ·have:(eG F [40] t).p=t.p+1:=by unfold eG;rw[aB hc];rfl
       have:=a2.p
       have h9:=a2.b;rw[zF] at h9;omega
      ·have e2:eG F [40] t=t:=by unfold eG;rw[aC hc]
       rw[e2];unfold gx at h;have h3:(sg F s.p==40)=false:=by
         unfold ef at hc;rw[e] at hc;simpa using hc
       rw[h3] at h;have h4:iw F t.p=true:=by rw[e];simp at h;exact h.1
       unfold eK;rw[aB h4];have h8:=(fR (F:=F) (k:=7) (fO h4)).2.1;refine⟨h8,?_⟩;have e9:(eD 7 t).l.length=t.l.length+1:=by show (ik (t.l++_) _ _).length=_;rw[ij];simp
       have e8:(eD 7 t).p=t.p+1:=rfl;omega
    have a7:=a5.p;have a8:=a5.b;unfold eB;by_cases hp:eN F (dW F (eE F 41 (eV F.length (fun s=>if ef F [124] s=true then (eK F (dY s),true) else (s,false)) (eK F (eG F [40] t)))))=true
    ·rw[aB hp];have h9:=(Gd.node0 (k:=2) (f:=L) (A:=3) (N:=F.length) (s:=(dW F (eE F 41 (eV F.length (fun s=>if ef F [124] s=true then (eK F (dY s),true) else (s,false)) (eK F (eG F [40] t)))))) fun t ht _=>hL t (by have:=a5.N;omega))
     have:=h9.p
     have:=h9.b
     omega
    ·rw[aC hp];omega
  obtain⟨h4,h5⟩:=key {s with l:=s.l++[⟨15,s.p,0,s.up⟩],up:=(s.l.length:Int)} rfl;refine⟨⟨h1.p,h1.N,h1.l,?_,h1.up,h1.dp,h1.f⟩,h4⟩;simp only[aD,bU] at h5;show (ik _ _ _).length+_≤_;rw[ij];show (eB F L {s with l:=s.l++[⟨15,s.p,0,s.up⟩],up:=(s.l.length:Int)}).l.length+16*s.p≤s.l.length+16*(eB F L {s with l:=s.l++[⟨15,s.p,0,s.up⟩],up:=(s.l.length:Int)}).p+0;omega
theorem gW (hL:GL F L):∀s:Ps,s.p≤F.length→LC F.length 0 s (if gx F s=true then (if ef F [121] (eh 15 (eB F L) s)=true then (dW F (dY (eh 15 (eB F L) s)),true) else (eh 15 (eB F L) s,false)) else (s,false)):=fun s hs=>
  LC.ite (fun hc=>by
    obtain⟨h1,h2⟩:=oF hL hc;refine LC.ite (fun hy=>?_) (fun _=>LC.no h1);have h3:=Gd.next (er hy (by decide));have h4:=ej h3.1.N;refine LC.yes ⟨by simpa using (h1.trans h3.1).trans h4,?_⟩
    have:=h3.2.1
    have:=h4.p
    omega) (fun _=>LC.no (Gd.refl hs))
theorem Ga (hL:GL F L) {s:Ps} (hs:s.p≤F.length):Gd F.length 3 s (ji F L s):=by
  have h1:=gK hs;have h2:=ej h1.N;have h3:=fp (F:=F) (c:=107) (by decide) h2.N;have h4:=ej h3.N;have h5:=Gd.loop (gW hL) _ _ rfl h4.N
  exact((((h1.trans h2).trans h3).trans h4).trans h5).trans (fp (F:=F) (c:=122) (by decide) h5.N)
theorem l6 (hL:GL F L) (c:UInt8) {s:Ps} (hs:s.p≤F.length):Gd F.length 14 s (lC F L c s):=by
  unfold lC;have hb:=fy hL hs
  repeat' split
  ·exact(hb.trans (fp (F:=F) (c:=41) (by decide) hb.N)).mono (by omega)
  ·exact JQ hL hs
  ·exact(hb.trans (B5 hL hb.N)).mono (by omega)
  ·exact(JP hL hs).mono (by omega)
  ·exact(Ga hL hs).mono (by omega)
  ·exact(hb.trans (fp (F:=F) (c:=125) (by decide) hb.N)).mono (by omega)
theorem iP {s:Ps} (h:gy F s=true):s.p<F.length:=er ((aR _ _).mp h).2 (by decide)
theorem Kh (c:UInt8):1≤sF c∧sF c≤16:=by
  unfold sF
  repeat' split
  all_goals omega
theorem qB (hL:GL F L) {s:Ps} (h:s.p<F.length):Gd F.length 0 s (g9 F L s)∧s.p<(g9 F L s).p:=by
  have h1:∀t:Ps,t.p=s.p→Gd F.length 14 (dY t) (gH F (lC F L (sg F s.p) (dY t))):=fun t ht=>by
    have h0:=(Gd.next (N:=F.length) (s:=t) (by omega)).1;have h2:=l6 hL (sg F s.p) h0.N;simpa using h2.trans (mz h2.N)
  have h3:=Gd.nest (k:=sF (sg F s.p)) (s:=s) (A:=0) (N:=F.length) (f:=fun t=>gH F (lC F L (sg F s.p) (dY t))) (fun t ht _=>(Gd.paid (by omega) (h1 t ht) (by omega)).1) (Kh _);have h4:s.p<(g9 F L s).p:=by
    have:=(h1 {s with deep:=s.deep+1,l:=s.l++[⟨sF (sg F s.p),s.p,0,s.up⟩],up:=(s.l.length:Int)} rfl).p
    exact bQ (dM _) this
  refine⟨⟨h3.p,h3.N,h3.l,?_,h3.up,h3.dp,h3.f⟩,h4⟩;have hb:=(h1 {s with deep:=s.deep+1,l:=s.l++[⟨sF (sg F s.p),s.p,0,s.up⟩],up:=(s.l.length:Int)} rfl).b;show (ik _ _ _).length+_≤_;rw[ij];have e1:(dY {s with deep:=s.deep+1,l:=s.l++[⟨sF (sg F s.p),s.p,0,s.up⟩],up:=(s.l.length:Int)}).l.length=s.l.length+1:=by simp[dY]
  have e2:(dY {s with deep:=s.deep+1,l:=s.l++[⟨sF (sg F s.p),s.p,0,s.up⟩],up:=(s.l.length:Int)}).p=s.p+1:=rfl;rw[e1,e2] at hb;show (gH F (lC F L (sg F s.p) (dY {s with deep:=s.deep+1,l:=s.l++[⟨sF (sg F s.p),s.p,0,s.up⟩],up:=(s.l.length:Int)}))).l.length+16*s.p≤s.l.length+16*(gH F (lC F L (sg F s.p) (dY {s with deep:=s.deep+1,l:=s.l++[⟨sF (sg F s.p),s.p,0,s.up⟩],up:=(s.l.length:Int)}))).p+0;omega
theorem Gc {s:Ps} (h:sg F s.p=120):iw F s.p=true:=by
  unfold sg at h;unfold iw
  cases hx:F[s.p]? with
  | none=>rw[hx] at h;cases h
  | some x=>
    rw[hx] at h;simp only[sA] at h;simp only[bA];by_cases h2:x.kd=2
    ·rw[aB h2] at h;cases h
    ·rw[aC h2] at h;by_cases h4:x.kd=4
     ·rw[aB h4] at h;exfalso
      revert h
      generalize iR x.tx=o;unfold CX;split<;>decide
     ·rw[aC h4] at h;by_cases h5:x.kd=5
      ·rw[aB h5] at h;cases h
      ·rw[aC h5] at h;by_cases h6:x.kd=6
       ·exact h6
       ·rw[aC h6] at h;cases h
theorem wL (hL:GL F L) {s:Ps} (h:sg F s.p=120):Gd F.length 2 s (lm F L s)∧s.p<(lm F L s).p∧(lm F L s).l.length+16*s.p+13≤s.l.length+16*(lm F L s).p:=by
  have hw:=Gc h;have h1:=fR (F:=F) (k:=7) (fO hw);have e1:eK F s=eD 7 s:=by unfold eK;rw[aB hw]
  have h2:=fJ (F:=F) (cs:=[40]) (by decide) h1.1.N;have h3:=fp (F:=F) (c:=41) (by decide) h2.N;have h4:=(h2.trans h3).trans (ej h3.N);rw[←e1] at h1 h4;have hl:(eK F s).l.length=s.l.length+1∧(eK F s).p=s.p+1:=by
    rw[e1];exact⟨by show (ik (s.l++_) _ _).length=_;rw[ij];simp,rfl⟩
  have h5:Gd F.length 1 (dW F (eE F 41 (eG F [40] (eK F s)))) (lm F L s):=by
    unfold lm;exact Gd.ite (fun hc=>(qB hL (iP hc)).1.mono (by omega)) (fun _=>gV h4.N)
  have h6:=h4.trans h5;have h7:=h6.b;have h8:=h6.p;refine⟨⟨?_,h6.N,?_,?_,h6.up.trans h1.1.up,h6.dp.trans h1.1.dp,(h1.1.trans h6).f⟩,?_,?_⟩
  ·omega
  ·have:=h6.l;omega
  ·omega
  ·omega
  ·omega
theorem nO (hL:GL F L) {s:Ps} (hs:s.p≤F.length):Gd F.length 1 s (iL F L s):=by
  unfold iL;refine Gd.ite (fun hc=>(qB hL (iP hc)).1.mono (by omega)) (fun _=>Gd.ite (fun hf=>?_) (fun _=>Gd.ite (fun _=>?_) (fun _=>gV hs)))
  ·have hx:sg F s.p=120:=by unfold lD at hf;simp at hf;exact hf.1
   refine(Gd.nest (k:=16) (A:=0) fun t ht _=>?_);have h1:=wL hL (s:=t) (by rw[ht];exact hx);exact⟨h1.1.p,h1.1.N,h1.1.l,by have:=h1.2.2;omega,h1.1.up,h1.1.dp,h1.1.f⟩
  ·exact Gd.node0 (A:=0) fun t ht _=>wK (by omega)
theorem jl (hL:GL F L):∀s:Ps,s.p≤F.length→LC F.length 0 s (if ef F [124] s=true then (iL F L (dW F (dY s)),true) else (s,false)):=fun s hs=>
  LC.ite (fun hc=>LC.yes (by
    have h0:=er hc (by decide);have h1:=ej (Gd.next h0).1.N;exact Gd.paid h0 (h1.trans (nO hL h1.N)) (by omega))) (fun _=>LC.no (Gd.refl hs))
theorem tQ (hL:GL F L) {s:Ps} (hs:s.p≤F.length):Gd F.length 1 s (jo F L s):=by
  have h1:=fJ (F:=F) (cs:=[33]) (by decide) hs;have h2:=nO hL h1.N
  exact((h1.trans h2).trans (Gd.loop (jl hL) _ _ rfl h2.N)).mono (au _)
theorem nN (hL:GL F L) {s:Ps} (hs:s.p≤F.length):Gd F.length 2 s (jA F L s):=
  Gd.ite (fun _=>Gd.node0 (A:=1) fun t ht _=>tQ hL (by omega)) (fun _=>(gV hs).mono (by omega))
theorem ng (hL:GL F L):∀s:Ps,s.p≤F.length→LC F.length 0 s (if ef F [97,111] s=true then (jA F L (dW F (dY s)),true) else (s,false)):=fun s hs=>
  LC.ite (fun hc=>LC.yes (by
    have h0:=er hc (by decide);have h1:=ej (Gd.next h0).1.N;exact Gd.paid h0 (h1.trans (nN hL h1.N)) (by omega))) (fun _=>LC.no (Gd.refl hs))
theorem lj (hL:GL F L) {s:Ps} (hs:s.p≤F.length):Gd F.length 2 s (eW F L s):=by
  have h1:=nN hL hs
  exact(h1.trans (Gd.loop (ng hL) _ _ rfl h1.N)).mono (au _)
theorem jk (hL:GL F L):∀s:Ps,s.p≤F.length→LC F.length 3 s (gj F (eh 3 (eW F L) s)):=fun s hs=>by
  have h1:=Gd.node0 (k:=3) (s:=s) (f:=eW F L) (A:=2) (N:=F.length) fun t ht _=>lj hL (by omega)
  have key:∀t,Gd F.length 0 (eh 3 (eW F L) s) t→(eh 3 (eW F L) s).p<t.p→t.l.length+16*(eh 3 (eW F L) s).p+16≤(eh 3 (eW F L) s).l.length+16*t.p→∀b,LC F.length 3 s (t,b):=fun t ht hlt hb b=>by
    have h2:=h1.trans ht;have h3:=h1.p;have h4:=h1.b;exact⟨fun _=>⟨⟨h2.p,h2.N,h2.l,by show t.l.length+16*s.p≤s.l.length+16*t.p+0;omega,h2.up,h2.dp,h2.f⟩,by show s.p<t.p;omega⟩,fun _=>h2⟩
  have step:∀r:Ps,r.p<F.length→Gd F.length 0 r (dW F (dY r))∧r.p<(dW F (dY r)).p∧(dW F (dY r)).l.length+16*r.p+16≤r.l.length+16*(dW F (dY r)).p:=fun r hr=>by
    have a:=Gd.next (N:=F.length) hr;have b:=ej a.1.N;exact⟨a.1.trans b,by have:=a.2.1;have:=b.p;omega,by have:=a.2.2;have:=b.b;omega⟩
  unfold gj;refine LC.ite (fun hc=>?_) (fun _=>LC.ite (fun hc=>?_) (fun _=>LC.no h1))
  ·obtain⟨a,b,c⟩:=step _ (er hc (by decide));exact key _ a b c _
  ·have e:dW F (eh 3 (eW F L) s)=dW F (dY (eh 3 (eW F L) s)):=by
     unfold dW;rw[LC.eq i7 _ h1.N];simp only[hc,bP]
   obtain⟨a,b,c⟩:=step _ (er hc (by decide));rw[e];exact key _ a b c _
theorem F8 (hL:GL F L) {s:Ps} (hs:s.p≤F.length):Gd F.length 3 s (kw F L s):=Gd.loop (jk hL) _ s rfl hs
end
theorem fU (F:List Lf):∀n,GL F (je F n)
  | 0=>fun s hs=>(Gd.refl hs).mono (by omega)
  | n+1=>fun s hs=>F8 (fU F n) hs
def fM (F:List Lf) (L:Ps→Ps) (x:Ps×Bool):(Ps×Bool)×Bool:=
  if ef F [110] x.1=true then ((dY x.1,x.2),true) else if (!x.2&&eN F x.1)=true then ((eh 2 L x.1,true),true) else if x.1.p<F.length then ((eD 17 x.1,false),true) else (x,false)
def jb (x:Ps×Bool):Nat:=2*x.1.p+(if x.2=true then 1 else 0)
def jj (F:List Lf) (L:Ps→Ps) (x:Ps×Bool):Ps×Bool:=nJ (fM F L) (2*F.length+2-jb x) x
theorem lK {F:List Lf} {s:Ps} (h:eN F s=true):s.p<F.length:=by
  refine oV fun e=>?_
  unfold eN lr eS gy ef at h;rw[e] at h;simp at h
theorem nD {F:List Lf} {L:Ps→Ps} (hL:GL F L) (x:Ps×Bool) (hx:x.1.p≤F.length) (hc:(fM F L x).2=true):jb x<jb (fM F L x).1∧(fM F L x).1.1.p≤F.length∧Gd F.length (if x.2=true then 0 else 4) x.1 (fM F L x).1.1 ∧
    ((fM F L x).1.1.l.length+16*x.1.p+(if (fM F L x).1.2=true then 0 else 4)≤x.1.l.length+16*(fM F L x).1.1.p+(if x.2=true then 0 else 4)):=by
  obtain⟨s,b⟩:=x;replace hx:s.p≤F.length:=hx;unfold fM at hc ⊢;unfold jb;by_cases h1:ef F [110] s=true
  ·have h2:=Gd.next (er h1 (by decide));simp only[h1,bP];refine⟨?_,h2.1.N,h2.1.mono (by omega),?_⟩
   ·have:=h2.2.1;omega
   ·have:=h2.2.2;omega
  ·simp only[h1,bp,aH] at hc ⊢;by_cases h2:(!b&&eN F s)=true
   ·obtain⟨rfl,h3⟩:b=false∧eN F s=true:=by simpa using h2
    have h4:=Gd.node0 (k:=2) (s:=s) (f:=L) (A:=3) (N:=F.length) fun t ht _=>hL t (by omega)
    simp only[h2,bP,bp,aH];refine⟨?_,h4.N,h4,?_⟩
    ·have:=h4.p;omega
    ·have:=h4.b;omega
   ·simp only[h2,bp,aH] at hc ⊢;by_cases h3:s.p<F.length
    ·have h4:=fR (F:=F) (k:=17) h3;have e9:(eD 17 s).l.length=s.l.length+1:=by show (ik (s.l++_) _ _).length=_;rw[ij];simp
     have e8:(eD 17 s).p=s.p+1:=rfl;simp only[h3,bP,bp,aH];refine⟨?_,h4.1.N,h4.2.2.mono (by omega),?_⟩
     ·split<;>omega
     ·split<;>omega
    ·simp only[h3,bp] at hc
     cases hc
theorem ma {F:List Lf} {x:Ps×Bool} (h:x.1.p≤F.length):jb x≤2*F.length+1:=by
  unfold jb;split<;>omega
theorem jV {F:List Lf} {L:Ps→Ps} (hL:GL F L) (x:Ps×Bool) (hx:x.1.p≤F.length):jj F L x=if (fM F L x).2=true then jj F L (fM F L x).1 else (fM F L x).1:=by
  have h0:=ma hx;unfold jj;obtain⟨k,hk⟩:∃k,2*F.length+2-jb x=k+1:=⟨2*F.length+1-jb x,by omega⟩;rw[hk];show (if (fM F L x).2=true then nJ (fM F L) k (fM F L x).1 else (fM F L x).1)=_;have fuel:∀k k' (y:Ps×Bool),y.1.p≤F.length→2*F.length+1<k+jb y→2*F.length+1<k'+jb y→nJ (fM F L) k y=nJ (fM F L) k' y:=by
    intro k
    induction k with
    | zero=>intro k' y hy h1 h2;have:=ma hy;omega
    | succ k ih=>
      intro k' y hy h1 h2
      cases k' with
      | zero=>have:=ma hy;omega
      | succ k'=>
        unfold nJ;by_cases hc:(fM F L y).2=true
        ·have:=nD hL y hy hc
         rw[aB hc,aB hc,ih k' _ this.2.1 (by omega) (by omega)]
        ·rw[aC hc,aC hc]
  by_cases hc:(fM F L x).2=true
  ·have:=nD hL x hx hc
   rw[aB hc,aB hc,fuel k (2*F.length+2-jb (fM F L x).1) _ this.2.1 (by omega) (by have:=ma this.2.1;omega)]
  ·rw[aC hc,aC hc]
theorem sU {F:List Lf} {L:Ps→Ps} (hL:GL F L):∀m x,2*F.length+1-jb x=m→x.1.p≤F.length→Gd F.length (if x.2=true then 0 else 4) x.1 (jj F L x).1∧(jj F L x).1.p=F.length:=by
  intro m
  induction m using Nat.strongRecOn with
  | _ m ih=>
    intro x hm hx;rw[jV hL x hx];by_cases hc:(fM F L x).2=true
    ·have h1:=nD hL x hx hc;have h2:=ma h1.2.1;obtain⟨h3,h4⟩:=ih _ (by omega) _ rfl h1.2.1;rw[aB hc];have h5:=h1.2.2.1.trans h3;have h6:=h1.2.2.2;have h7:=h3.b;exact⟨⟨h5.p,h5.N,h5.l,by omega,h5.up,h5.dp,h5.f⟩,h4⟩
    ·rw[aC hc];obtain⟨s,b⟩:=x;replace hx:s.p≤F.length:=hx;unfold fM at hc ⊢;by_cases h1:ef F [110] s=true
     ·simp[h1] at hc
     ·simp only[h1,bp,aH] at hc ⊢;by_cases h2:(!b&&eN F s)=true
      ·simp[h2] at hc
      ·simp only[h2,bp,aH] at hc ⊢;by_cases h3:s.p<F.length
       ·simp[h3] at hc
       ·simp only[h3,bp];exact⟨(Gd.refl hx).mono (by omega),by show s.p=_;omega⟩
def gO (a:Nat):Ps:=⟨a,[], -1,0⟩
abbrev lz (F:List Lf):Ps→Ps:=je F (F.length+1)
def ei (F:List Lf):Ps:=eh 1 (fun s=>(jj F (lz F) (s,false)).1) (gO 0)
def eO (F:List Lf) (a:Nat):Ps:=eh 3 (eW F (lz F)) (gO a)
theorem tR (F:List Lf):Gd F.length 5 (gO 0) (ei F)∧(ei F).p=F.length:=by
  have h:=fun t (ht:t.p=(gO 0).p)=>sU (fU F (F.length+1)) _ (t,false) rfl (by rw[ht];exact bq _)
  exact⟨Gd.node0 (A:=4) fun t ht _=>(h t ht).1,(h {gO 0 with l:=(gO 0).l++[⟨1,(gO 0).p,0,(gO 0).up⟩],up:=((gO 0).l.length:Int)} rfl).2⟩
theorem AG (F:List Lf) {a:Nat} (ha:a≤F.length):Gd F.length 3 (gO a) (eO F a):=Gd.node0 (A:=2) fun t ht _=>lj (fU F _) (by rw[ht];exact ha)
end
end Go.Proofs.YtmclohkaiemnaaaGreatDoor
