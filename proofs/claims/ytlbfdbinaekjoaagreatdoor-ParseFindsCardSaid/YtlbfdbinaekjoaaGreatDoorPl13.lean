/- The parser: what it makes of a row of leaves. No program is in sight. -/
import Derived.Test.YtlbfdbinaekjoaaGreatDoorLf9
namespace Go.Proofs.YtlbfdbinaekjoaaGreatDoor
set_option linter.unusedVariables false
set_option linter.unusedSimpArgs false
set_option maxRecDepth 100000
def wsgn (s:List UInt8):UInt8:=
  if s=[33]∨s=[123]∨s=[125] then s.getD 0 0 else if s=[105,102] then 105 else if s=[116,104,101,110] then 116 else if s=[101,108,105,102] then 101
  else if s=[101,108,115,101] then 108 else if s=[102,105] then 102 else if s=[119,104,105,108,101]∨s=[117,110,116,105,108] then 119 else if s=[100,111] then 100
  else if s=[100,111,110,101] then 103 else if s=[102,111,114] then 114 else if s=[105,110] then 107 else if s=[99,97,115,101] then 99 else if s=[101,115,97,99] then 122 else 120
def osgn:Nat→UInt8
  | 0=>63|1=>97|2=>111|3=>121|13=>38|14=>59|15=>124|16=>40|17=>41|_=>60
def sgnL (x:Lf):UInt8:=if x.kd=2 then 110 else if x.kd=4 then osgn (opOf x.tx) else if x.kd=5 then 35 else if x.kd=6 then wsgn x.tx else 63
def sg (F:List Lf) (i:Nat):UInt8:=match F[i]? with|some x=>sgnL x|none=>0
def isW (F:List Lf) (i:Nat):Bool:=match F[i]? with|some x=>x.kd==6|none=>false
def tx (F:List Lf) (i:Nat):List UInt8:=match F[i]? with|some x=>x.tx|none=>[]
def nameT (s:List UInt8):Bool:=s != []&&nmL s 0==s.length
def asgT (s:List UInt8):Bool:=nmL s 0 != 0&&nmL s 0 != s.length&&s.getD (nmL s 0) 0==61
structure Nd where
  kd:Nat
  fr:Nat
  tt:Nat
  up:Int
structure Ps where
  p:Nat
  l:List Nd
  up:Int
  deep:Nat
def ndTo:List Nd→Nat→Nat→List Nd
  | [],_,_=>[]
  | n::r,0,t=>{n with tt:=t}::r
  | n::r,i+1,t=>n::ndTo r i t
theorem ndTo_len:∀(l:List Nd) (i t:Nat),(ndTo l i t).length=l.length
  | [],_,_=>rfl
  | n::r,0,t=>rfl
  | n::r,i+1,t=>by simp[ndTo,ndTo_len r i t]
def loopF {σ:Type} (c:σ→σ×Bool):Nat→σ→σ
  | 0,s=>s
  | k+1,s=>if (c s).2=true then loopF c k (c s).1 else (c s).1
theorem loopF_fuel {σ:Type} {c:σ→σ×Bool} {m:σ→Nat} {N:Nat} (h:∀s,m s≤N→(c s).2=true→m s<m (c s).1∧m (c s).1≤N):∀k k' s,m s≤N→N<k+m s→N<k'+m s→loopF c k s=loopF c k' s
  | 0,k',s,h0,h1,h2=>by omega
  | k+1,0,s,h0,h1,h2=>by omega
  | k+1,k'+1,s,h0,h1,h2=>by
    unfold loopF
    by_cases hc:(c s).2=true
    ·have:=h s h0 hc
     rw[if_pos hc,if_pos hc,loopF_fuel h k k' _ this.2 (by omega) (by omega)]
    ·rw[if_neg hc,if_neg hc]
def loopP (N:Nat) (c:Ps→Ps×Bool) (s:Ps):Ps:=loopF c (N+1-s.p) s
theorem loopP_eq {N:Nat} {c:Ps→Ps×Bool} (h:∀s,s.p≤N→(c s).2=true→s.p<(c s).1.p∧(c s).1.p≤N) (s:Ps) (hs:s.p≤N):loopP N c s=if (c s).2=true then loopP N c (c s).1 else (c s).1:=by
  unfold loopP
  obtain⟨k,hk⟩:∃k,N+1-s.p=k+1:=⟨N-s.p,by omega⟩
  rw[hk]
  show (if (c s).2=true then loopF c k (c s).1 else (c s).1)=_
  by_cases hc:(c s).2=true
  ·have:=h s hs hc
   rw[if_pos hc,if_pos hc,loopF_fuel (m:=Ps.p) h k (N+1-(c s).1.p) _ this.2 (by omega) (by omega)]
  ·rw[if_neg hc,if_neg hc]
section
variable (F:List Lf)
def comes (cs:List UInt8) (s:Ps):Bool:=cs.contains (sg F s.p)
def nextP (s:Ps):Ps:={s with p:=s.p+1}
def takeP (cs:List UInt8) (s:Ps):Ps:=if comes F cs s=true then nextP s else s
def nodeP (k:Nat) (f:Ps→Ps) (s:Ps):Ps:=
  let s2:=f {s with l:=s.l++[⟨k,s.p,0,s.up⟩],up:=(s.l.length:Int)}
  {s2 with up:=s.up,l:=ndTo s2.l s.l.length s2.p}
def nestP (k:Nat) (f:Ps→Ps) (s:Ps):Ps:=
  let s2:=nodeP k f {s with deep:=s.deep+1}
  {s2 with deep:=s2.deep-1}
def missP (s:Ps):Ps:=nodeP 18 id s
def wantP (c:UInt8) (s:Ps):Ps:=if comes F [c] s=true then nextP s else missP s
def leafP (k:Nat) (s:Ps):Ps:=nodeP k nextP s
def wordP (s:Ps):Ps:=if isW F s.p=true then leafP 7 s else missP s
def linesP (s:Ps):Ps:=loopP F.length (fun s=>if comes F [110] s=true then (nextP s,true) else (s,false)) s
def redirB (s:Ps):Bool:=sg F s.p==60||sg F s.p==35&&sg F (s.p+1)==60
def compB (s:Ps):Bool:=decide (s.deep<200)&&comes F [123,40,105,119,114,99] s
def cmdB (s:Ps):Bool:=sg F s.p==120||(redirB F s||compB F s)
def pipeB (s:Ps):Bool:=sg F s.p==33||cmdB F s
def funB (s:Ps):Bool:=sg F s.p==120&&(sg F (s.p+1)==40&&(decide (s.deep<200)&&nameT (tx F s.p)))
def redirP (s:Ps):Ps:=nodeP 8 (fun s=>wordP F (takeP F [60] (takeP F [35] s))) s
def redirsP (s:Ps):Ps:=loopP F.length (fun s=>if redirB F s=true then (redirP F s,true) else (s,false)) s
def simp1P (s:Ps):Ps:=loopP F.length (fun s=>if redirB F s=true then (redirP F s,true) else if isW F s.p=true then (leafP 7 s,true) else (s,false)) s
def simpP (s:Ps):Ps:=
  let s1:=loopP F.length (fun s=>if redirB F s=true then (redirP F s,true) else if (isW F s.p&&asgT (tx F s.p))=true then (leafP 6 s,true) else (s,false)) s
  if isW F s1.p=true then simp1P F (leafP 7 s1) else s1
variable (L:Ps→Ps)
def bodyP (s:Ps):Ps:=if pipeB F (linesP F s)=true then nodeP 2 L (linesP F s) else missP (linesP F s)
def branP (s:Ps):Ps:=
  let s1:=loopP F.length (fun s=>if comes F [101] s=true then (bodyP F L (wantP F 116 (bodyP F L (nextP s))),true) else (s,false)) (bodyP F L (wantP F 116 (bodyP F L s)))
  wantP F 102 (if comes F [108] s1=true then bodyP F L (nextP s1) else s1)
def doP (s:Ps):Ps:=wantP F 103 (bodyP F L (wantP F 100 s))
def wordsP (s:Ps):Ps:=loopP F.length (fun s=>if isW F s.p=true then (leafP 7 s,true) else (s,false)) s
def inP (s:Ps):Ps:=
  let s1:=wordsP F (nextP s)
  if comes F [59] s1=true then linesP F (nextP s1) else if comes F [110] s1=true then linesP F s1 else missP s1
def eachP (s:Ps):Ps:=
  let s1:=if (isW F s.p&&nameT (tx F s.p))=true then leafP 7 s else missP s
  doP F L (if comes F [59] s1=true then linesP F (nextP s1) else if comes F [107] (linesP F s1)=true then inP F (linesP F s1) else linesP F s1)
def itemP (s:Ps):Ps:=
  let s1:=linesP F (wantP F 41 (loopP F.length (fun s=>if comes F [124] s=true then (wordP F (nextP s),true) else (s,false)) (wordP F (takeP F [40] s))))
  if pipeB F s1=true then nodeP 2 L s1 else s1
def itemB (s:Ps):Bool:=sg F s.p==40||isW F s.p&&sg F s.p != 122
def casesP (s:Ps):Ps:=
  wantP F 122 (loopP F.length (fun s=>if itemB F s=true then (if comes F [121] (nodeP 15 (itemP F L) s)=true then (linesP F (nextP (nodeP 15 (itemP F L) s)),true) else (nodeP 15 (itemP F L) s,false)) else (s,false)) (linesP F (wantP F 107 (linesP F (wordP F s)))))
def insP (c:UInt8) (s:Ps):Ps:=
  if c=40 then wantP F 41 (bodyP F L s) else if c=105 then branP F L s else if c=119 then doP F L (bodyP F L s) else if c=114 then eachP F L s else if c=99 then casesP F L s else wantP F 125 (bodyP F L s)
def cknd (c:UInt8):Nat:=if c=40 then 10 else if c=105 then 11 else if c=119 then 12 else if c=114 then 13 else if c=99 then 14 else 9
def compP (s:Ps):Ps:=nestP (cknd (sg F s.p)) (fun t=>redirsP F (insP F L (sg F s.p) (nextP t))) s
def defP (s:Ps):Ps:=
  let s1:=linesP F (wantP F 41 (takeP F [40] (wordP F s)))
  if compB F s1=true then compP F L s1 else missP s1
def comP (s:Ps):Ps:=if compB F s=true then compP F L s else if funB F s=true then nestP 16 (defP F L) s else if cmdB F s=true then nodeP 5 (simpP F) s else missP s
def pipInP (s:Ps):Ps:=loopP F.length (fun s=>if comes F [124] s=true then (comP F L (linesP F (nextP s)),true) else (s,false)) (comP F L (takeP F [33] s))
def pipP (s:Ps):Ps:=if pipeB F s=true then nodeP 4 (pipInP F L) s else missP s
def andP (s:Ps):Ps:=loopP F.length (fun s=>if comes F [97,111] s=true then (pipP F L (linesP F (nextP s)),true) else (s,false)) (pipP F L s)
def sepP (s:Ps):Ps×Bool:=if comes F [59,38] s=true then (linesP F (nextP s),pipeB F (linesP F (nextP s))) else if comes F [110] s=true then (linesP F s,pipeB F (linesP F s)) else (s,false)
def lstP (s:Ps):Ps:=loopP F.length (fun s=>sepP F (nodeP 3 (andP F L) s)) s
end
def lstF (F:List Lf):Nat→Ps→Ps
  | 0=>id
  | n+1=>lstP F (lstF F n)
def okN (k x y:Nat):Prop:=1≤k∧k≤18∧(k=17→y=x+1)∧(k=18→y=x)
inductive Fo:Nat→Int→Nat→Nat→List Nd→Prop
  | nil {b:Nat} {u:Int} {a c:Nat}:a≤c→Fo b u a c []
  | cons {b:Nat} {u:Int} {a c k x y:Nat} {ks r:List Nd}:a≤x→x≤y→okN k x y→Fo (b+1) (b:Int) x y ks→Fo (b+1+ks.length) u y c r→Fo b u a c (⟨k,x,y,u⟩::(ks++r))
theorem Fo.le {b:Nat} {u:Int} {a c:Nat} {l:List Nd} (h:Fo b u a c l):a≤c:=by
  induction h with
  | nil h=>exact h
  | cons h1 h2 _ _ _ _ ih=>omega
theorem Fo.app {b:Nat} {u:Int} {a c:Nat} {l:List Nd} (h:Fo b u a c l):∀{d:Nat} {m:List Nd},Fo (b+l.length) u c d m→Fo b u a d (l++m):=by
  induction h with
  | nil h=>
    intro d m k
    cases k with
    | nil k=>exact .nil (by omega)
    | cons k1 k2 k3 k4 k5=>exact .cons (by omega) k2 k3 k4 k5
  | @cons b u a c k x y ks r h1 h2 h3 h4 h5 _ ih=>
    intro d m hm
    rw[List.cons_append,List.append_assoc]
    refine .cons h1 h2 h3 h4 (ih ?_)
    simp only[List.length_cons,List.length_append] at hm
    rwa [show b+1+ks.length+r.length=b+(ks.length+r.length+1) by omega]
theorem Fo.mono {b:Nat} {u:Int} {a a' c:Nat} {l:List Nd} (h:Fo b u a c l) (ha:a'≤a):Fo b u a' c l:=by
  cases h with
  | nil h=>exact .nil (by omega)
  | cons h1 h2 h3 h4 h5=>exact .cons (by omega) h2 h3 h4 h5
theorem ndTo_at (l:List Nd) (n:Nd) (r:List Nd) (t:Nat):ndTo (l++n::r) l.length t=l++{n with tt:=t}::r:=by
  induction l with
  | nil=>rfl
  | cons a l ih=>show a::ndTo (l++n::r) l.length t=_;rw[ih];rfl
structure Gd (N B:Nat) (s t:Ps):Prop where
  p:s.p≤t.p
  N:t.p≤N
  l:s.l.length≤t.l.length
  b:t.l.length+16*s.p≤s.l.length+16*t.p+B
  up:t.up=s.up
  dp:t.deep=s.deep
  f:∃m,t.l=s.l++m∧Fo s.l.length s.up s.p t.p m
theorem Gd.refl {N:Nat} {s:Ps} (h:s.p≤N):Gd N 0 s s:=⟨Nat.le_refl _,h,Nat.le_refl _,by omega,rfl,rfl,[],by simp,.nil (Nat.le_refl _)⟩
theorem Gd.trans {N A B:Nat} {s t u:Ps} (h:Gd N A s t) (k:Gd N B t u):Gd N (A+B) s u:=by
  refine⟨Nat.le_trans h.p k.p,k.N,Nat.le_trans h.l k.l,by have:=h.b;have:=k.b;omega,k.up.trans h.up,k.dp.trans h.dp,?_⟩
  obtain⟨m,h1,h2⟩:=h.f
  obtain⟨m',k1,k2⟩:=k.f
  rw[h.up,h1,List.length_append] at k2
  exact⟨m++m',by rw[k1,h1,List.append_assoc],h2.app k2⟩
theorem Gd.mono {N A B:Nat} {s t:Ps} (h:Gd N A s t) (hab:A≤B):Gd N B s t:=⟨h.p,h.N,h.l,by have:=h.b;omega,h.up,h.dp,h.f⟩
theorem Gd.next {N:Nat} {s:Ps} (h:s.p<N):Gd N 0 s (nextP s)∧s.p<(nextP s).p∧(nextP s).l.length+16*s.p+16≤s.l.length+16*(nextP s).p:=⟨⟨Nat.le_succ _,h,Nat.le_refl _,by show s.l.length+16*s.p≤s.l.length+16*(s.p+1)+0;omega,rfl,rfl,[],by simp[nextP],.nil (Nat.le_succ _)⟩,Nat.lt_succ_self _,by show s.l.length+16*s.p+16≤s.l.length+16*(s.p+1);omega⟩
theorem Gd.paid {N A:Nat} {s t:Ps} (h:s.p<N) (k:Gd N A (nextP s) t) (hA:A≤16):Gd N 0 s t∧s.p<t.p:=by
  have h1:=k.p
  have h2:=k.b
  have h3:(nextP s).p=s.p+1:=rfl
  have h4:(nextP s).l=s.l:=rfl
  obtain⟨m,h5,h6⟩:=k.f
  rw[h3] at h1 h2 h6
  rw[h4] at h2 h5 h6
  exact⟨⟨by omega,k.N,by rw[←h4];exact k.l,by omega,k.up,k.dp,m,h5,h6.mono (by omega)⟩,by omega⟩
theorem Gd.node {N A k:Nat} {s:Ps} {f:Ps→Ps} (h:Gd N A {s with l:=s.l++[⟨k,s.p,0,s.up⟩],up:=(s.l.length:Int)} (f {s with l:=s.l++[⟨k,s.p,0,s.up⟩],up:=(s.l.length:Int)})) (hk:okN k s.p (f {s with l:=s.l++[⟨k,s.p,0,s.up⟩],up:=(s.l.length:Int)}).p):Gd N (A+1) s (nodeP k f s):=by
  have h1:=h.p
  have h2:=h.l
  have h3:=h.b
  obtain⟨m,h4,h5⟩:=h.f
  simp only[List.length_append,List.length_singleton] at h2 h3 h5
  refine⟨h1,h.N,by show _≤(ndTo _ _ _).length;rw[ndTo_len];omega,by show (ndTo _ _ _).length+_≤_;rw[ndTo_len];show _+16*s.p≤s.l.length+16*(f _).p+_;omega,rfl,h.dp,
    ⟨k,s.p,(f {s with l:=s.l++[⟨k,s.p,0,s.up⟩],up:=(s.l.length:Int)}).p,s.up⟩::m,?_,?_⟩
  ·show ndTo (f {s with l:=s.l++[⟨k,s.p,0,s.up⟩],up:=(s.l.length:Int)}).l s.l.length (f {s with l:=s.l++[⟨k,s.p,0,s.up⟩],up:=(s.l.length:Int)}).p=_
   rw[h4,List.append_assoc,List.singleton_append,ndTo_at]
  ·have:=Fo.cons (u:=s.up) (Nat.le_refl s.p) h5.le hk h5 (.nil (Nat.le_refl _))
   rw[List.append_nil] at this
   exact this
theorem Gd.node0 {N A k:Nat} {s:Ps} {f:Ps→Ps} (h:∀t:Ps,t.p=s.p→t.deep=s.deep→Gd N A t (f t)) (hk:1≤k∧k≤16:=by decide):Gd N (A+1) s (nodeP k f s):=Gd.node (h _ rfl rfl) ⟨hk.1,by omega,fun e=>by omega,fun e=>by omega⟩
theorem Gd.nest {N A k:Nat} {s:Ps} {f:Ps→Ps} (h:∀t:Ps,t.p=s.p→t.deep=s.deep+1→Gd N A t (f t)) (hk:1≤k∧k≤16:=by decide):Gd N (A+1) s (nestP k f s):=by
  have h1:=Gd.node0 (k:=k) (s:={s with deep:=s.deep+1}) h hk
  exact⟨h1.p,h1.N,h1.l,h1.b,h1.up,by show (nodeP k f {s with deep:=s.deep+1}).deep-1=s.deep;rw[h1.dp];rfl,h1.f⟩
def LC (N B:Nat) (s:Ps) (r:Ps×Bool):Prop:=(r.2=true→Gd N 0 s r.1∧s.p<r.1.p)∧(r.2=false→Gd N B s r.1)
theorem LC.yes {N B:Nat} {s t:Ps} (h:Gd N 0 s t∧s.p<t.p):LC N B s (t,true):=⟨fun _=>h,fun h=>by cases h⟩
theorem LC.no {N B:Nat} {s t:Ps} (h:Gd N B s t):LC N B s (t,false):=⟨fun h=>(by cases h),fun _=>h⟩
theorem LC.any {N:Nat} {s t:Ps} {b:Bool} (h:Gd N 0 s t∧s.p<t.p):LC N 0 s (t,b):=⟨fun _=>h,fun _=>h.1⟩
theorem LC.ite {N B:Nat} {s:Ps} {r r':Ps×Bool} {b:Bool} (h:b=true→LC N B s r) (k:b=false→LC N B s r'):LC N B s (if b=true then r else r'):=by
  cases b
  ·exact k rfl
  ·exact h rfl
theorem Gd.ite {N B:Nat} {s r r':Ps} {b:Bool} (h:b=true→Gd N B s r) (k:b=false→Gd N B s r'):Gd N B s (if b=true then r else r'):=by
  cases b
  ·exact k rfl
  ·exact h rfl
theorem Gd.loop {N:Nat} {c:Ps→Ps×Bool} {B:Nat} (h:∀s,s.p≤N→LC N B s (c s)):∀m s,N-s.p=m→s.p≤N→Gd N B s (loopP N c s):=by
  intro m
  induction m using Nat.strongRecOn with
  | _ m ih=>
    intro s hm hs
    rw[loopP_eq (fun s hs hc=>⟨((h s hs).1 hc).2,((h s hs).1 hc).1.N⟩) s hs]
    by_cases hc:(c s).2=true
    ·rw[if_pos hc]
     have h1:=(h s hs).1 hc
     have h2:=h1.1.N
     simpa using h1.1.trans (ih _ (by omega) _ rfl h2)
    ·rw[if_neg hc]
     exact(h s hs).2 (by simpa using hc)
theorem LC.eq {N B:Nat} {c:Ps→Ps×Bool} (h:∀s,s.p≤N→LC N B s (c s)) (s:Ps) (hs:s.p≤N):loopP N c s=if (c s).2=true then loopP N c (c s).1 else (c s).1:=
  loopP_eq (fun s hs hc=>⟨((h s hs).1 hc).2,((h s hs).1 hc).1.N⟩) s hs
theorem sg_lt {F:List Lf} {i:Nat} (h:sg F i≠0):i<F.length:=by
  unfold sg at h
  refine Nat.lt_of_not_le fun hi=>?_
  rw[List.getElem?_eq_none hi] at h
  exact h rfl
theorem comes_lt {F:List Lf} {cs:List UInt8} {s:Ps} (hc:comes F cs s=true) (h0:cs.contains 0=false):s.p<F.length:=by
  refine sg_lt fun e=>?_
  unfold comes at hc
  rw[e,h0] at hc
  cases hc
theorem isW_lt {F:List Lf} {i:Nat} (h:isW F i=true):i<F.length:=by
  unfold isW at h
  refine Nat.lt_of_not_le fun hi=>?_
  rw[List.getElem?_eq_none hi] at h
  cases h
section
variable {F:List Lf}
theorem gd_take {cs:List UInt8} (h0:cs.contains 0=false) {s:Ps} (hs:s.p≤F.length):Gd F.length 0 s (takeP F cs s):=by
  unfold takeP
  by_cases hc:comes F cs s=true
  ·rw[if_pos hc];exact(Gd.next (comes_lt hc h0)).1
  ·rw[if_neg hc];exact Gd.refl hs
theorem gd_miss {s:Ps} (hs:s.p≤F.length):Gd F.length 1 s (missP s):=Gd.node (A:=0) (Gd.refl hs) ⟨by decide,by decide,fun e=>(by cases e),fun _=>rfl⟩
theorem gd_leaf {k:Nat} {s:Ps} (hs:s.p<F.length) (hk:1≤k∧k≤17:=by decide):Gd F.length 1 s (leafP k s)∧s.p<(leafP k s).p∧Gd F.length 0 s (leafP k s):=by
  have h:Gd F.length 0 _ _:=(Gd.next (N:=F.length) (s:={s with l:=s.l++[⟨k,s.p,0,s.up⟩],up:=(s.l.length:Int)}) hs).1
  have h1:=Gd.node h ⟨hk.1,by omega,fun _=>rfl,fun e=>by omega⟩
  refine⟨h1,Nat.lt_succ_self _,h1.p,h1.N,h1.l,?_,h1.up,h1.dp,h1.f⟩
  show (ndTo _ _ _).length+_≤_
  rw[ndTo_len]
  show (s.l++_).length+16*s.p≤s.l.length+16*(s.p+1)+0
  simp
  omega
theorem gd_want {c:UInt8} (h0:c≠0) {s:Ps} (hs:s.p≤F.length):Gd F.length 1 s (wantP F c s):=by
  unfold wantP
  by_cases hc:comes F [c] s=true
  ·rw[if_pos hc];exact(Gd.next (comes_lt hc (by simpa using h0.symm))).1.mono (by omega)
  ·rw[if_neg hc];exact gd_miss hs
theorem gd_word {s:Ps} (hs:s.p≤F.length):Gd F.length 1 s (wordP F s):=by
  unfold wordP
  by_cases hc:isW F s.p=true
  ·rw[if_pos hc];exact(gd_leaf (isW_lt hc)).1
  ·rw[if_neg hc];exact gd_miss hs
end
section
variable {F:List Lf}
theorem lines_c:∀s:Ps,s.p≤F.length→LC F.length 0 s (if comes F [110] s=true then (nextP s,true) else (s,false)):=fun s hs=>
  LC.ite (fun hc=>LC.yes ⟨(Gd.next (comes_lt hc (by decide))).1,Nat.lt_succ_self _⟩) (fun _=>LC.no (Gd.refl hs))
theorem gd_lines {s:Ps} (hs:s.p≤F.length):Gd F.length 0 s (linesP F s):=Gd.loop lines_c _ s rfl hs
theorem redir_lt {s:Ps} (h:redirB F s=true):s.p<F.length:=by
  refine sg_lt fun e=>?_
  unfold redirB at h
  rw[e] at h
  simp at h
theorem redir_in {s:Ps} (h:redirB F s=true):s.p<(takeP F [60] (takeP F [35] s)).p:=by
  unfold redirB at h
  unfold takeP comes
  by_cases h1:sg F s.p=60
  ·rw[h1]
   simp[nextP,h1]
  ·have h2:(sg F s.p==60)=false:=by simpa using h1
   rw[h2] at h
   have h3:sg F s.p=35∧sg F (s.p+1)=60:=by simpa using h
   rw[h3.1]
   simp[nextP,h3.2]
   omega
theorem take_l (cs:List UInt8) (s:Ps):(takeP F cs s).l=s.l:=by
  unfold takeP
  split<;>rfl
theorem gd_redir {s:Ps} (h:redirB F s=true):Gd F.length 0 s (redirP F s)∧s.p<(redirP F s).p:=by
  have hlt:=redir_lt h
  have h1:∀t:Ps,t.p=s.p→Gd F.length 1 t (wordP F (takeP F [60] (takeP F [35] t)))∧t.p<(wordP F (takeP F [60] (takeP F [35] t))).p∧(wordP F (takeP F [60] (takeP F [35] t))).l.length+16*t.p+15≤t.l.length+16*(wordP F (takeP F [60] (takeP F [35] t))).p:=fun t ht=>by
    have ht2:redirB F t=true:=by unfold redirB at h ⊢;rwa [ht]
    have a:=gd_take (F:=F) (cs:=[35]) (by decide) (s:=t) (by omega)
    have b:=gd_take (F:=F) (cs:=[60]) (by decide) a.N
    have c:=gd_word b.N
    have d:=redir_in ht2
    have e:=c.b
    rw[take_l,take_l] at e
    exact⟨by simpa using (a.trans b).trans c,Nat.lt_of_lt_of_le d c.p,by omega⟩
  have h2:=Gd.node0 (k:=8) (s:=s) fun t ht _=>(h1 t ht).1
  obtain⟨_,h4,h5⟩:=h1 {s with l:=s.l++[⟨8,s.p,0,s.up⟩],up:=(s.l.length:Int)} rfl
  refine⟨⟨h2.p,h2.N,h2.l,?_,h2.up,h2.dp,h2.f⟩,h4⟩
  simp only[List.length_append,List.length_singleton] at h5
  show (ndTo _ _ _).length+_≤_
  rw[ndTo_len]
  show (wordP F (takeP F [60] (takeP F [35] {s with l:=s.l++[⟨8,s.p,0,s.up⟩],up:=(s.l.length:Int)}))).l.length+16*s.p≤s.l.length+16*(wordP F (takeP F [60] (takeP F [35] {s with l:=s.l++[⟨8,s.p,0,s.up⟩],up:=(s.l.length:Int)}))).p+0
  omega
theorem redirs_c:∀s:Ps,s.p≤F.length→LC F.length 0 s (if redirB F s=true then (redirP F s,true) else (s,false)):=fun s hs=>
  LC.ite (fun hc=>LC.yes (gd_redir hc)) (fun _=>LC.no (Gd.refl hs))
theorem gd_redirs {s:Ps} (hs:s.p≤F.length):Gd F.length 0 s (redirsP F s):=Gd.loop redirs_c _ s rfl hs
theorem simp1_c:∀s:Ps,s.p≤F.length→LC F.length 0 s (if redirB F s=true then (redirP F s,true) else if isW F s.p=true then (leafP 7 s,true) else (s,false)):=fun s hs=>
  LC.ite (fun hc=>LC.yes (gd_redir hc)) (fun _=>LC.ite (fun hc=>LC.yes ⟨(gd_leaf (isW_lt hc)).2.2,(gd_leaf (isW_lt hc)).2.1⟩) (fun _=>LC.no (Gd.refl hs)))
theorem simp0_c:∀s:Ps,s.p≤F.length→LC F.length 0 s (if redirB F s=true then (redirP F s,true) else if (isW F s.p&&asgT (tx F s.p))=true then (leafP 6 s,true) else (s,false)):=fun s hs=>
  LC.ite (fun hc=>LC.yes (gd_redir hc)) (fun _=>LC.ite (fun hc=>by
    have hc:=isW_lt ((Bool.and_eq_true _ _).mp hc).1
    exact LC.yes ⟨(gd_leaf hc).2.2,(gd_leaf hc).2.1⟩) (fun _=>LC.no (Gd.refl hs)))
theorem gd_simp1 {s:Ps} (hs:s.p≤F.length):Gd F.length 0 s (simp1P F s):=Gd.loop simp1_c _ s rfl hs
theorem gd_simp {s:Ps} (hs:s.p≤F.length):Gd F.length 0 s (simpP F s):=by
  have h1:=Gd.loop (simp0_c (F:=F)) _ s rfl hs
  refine Gd.ite (fun hc=>?_) (fun _=>h1)
  have h2:=(gd_leaf (F:=F) (k:=7) (isW_lt hc)).2.2
  simpa using (h1.trans h2).trans (gd_simp1 h2.N)
variable {L:Ps→Ps}
abbrev GL (F:List Lf) (L:Ps→Ps):Prop:=∀s:Ps,s.p≤F.length→Gd F.length 3 s (L s)
theorem gd_body (hL:GL F L) {s:Ps} (hs:s.p≤F.length):Gd F.length 4 s (bodyP F L s):=by
  have h1:=gd_lines hs
  refine Gd.ite (fun _=>?_) (fun _=>?_)
  ·simpa using h1.trans (Gd.node0 (A:=3) fun t ht _=>hL t (by have:=h1.N;omega))
  ·exact(h1.trans (gd_miss h1.N)).mono (by omega)
theorem branch_c (hL:GL F L):∀s:Ps,s.p≤F.length→LC F.length 0 s (if comes F [101] s=true then (bodyP F L (wantP F 116 (bodyP F L (nextP s))),true) else (s,false)):=fun s hs=>
  LC.ite (fun hc=>LC.yes (by
    have h0:=comes_lt hc (by decide)
    have h1:=gd_body hL (Gd.next h0).1.N
    have h2:=gd_want (F:=F) (c:=116) (by decide) h1.N
    exact Gd.paid h0 ((h1.trans h2).trans (gd_body hL h2.N)) (by omega))) (fun _=>LC.no (Gd.refl hs))
theorem gd_bran (hL:GL F L) {s:Ps} (hs:s.p≤F.length):Gd F.length 14 s (branP F L s):=by
  have h1:=gd_body hL hs
  have h2:=gd_want (F:=F) (c:=116) (by decide) h1.N
  have h3:=gd_body hL h2.N
  have h4:=Gd.loop (branch_c hL) _ _ rfl h3.N
  have h5:=((h1.trans h2).trans h3).trans h4
  have h6:Gd F.length 4 (loopP F.length (fun s=>if comes F [101] s=true then (bodyP F L (wantP F 116 (bodyP F L (nextP s))),true) else (s,false)) (bodyP F L (wantP F 116 (bodyP F L s)))) _:=Gd.ite (b:=comes F [108] _) (fun hc=>by
    have h0:=comes_lt hc (by decide)
    exact(Gd.paid h0 (gd_body hL (Gd.next h0).1.N) (by omega)).1.mono (by omega)) (fun _=>(Gd.refl h5.N).mono (by omega))
  exact(h5.trans h6).trans (gd_want (F:=F) (c:=102) (by decide) h6.N)
theorem gd_do (hL:GL F L) {s:Ps} (hs:s.p≤F.length):Gd F.length 6 s (doP F L s):=by
  have h1:=gd_want (F:=F) (c:=100) (by decide) hs
  have h2:=gd_body hL h1.N
  exact(h1.trans h2).trans (gd_want (F:=F) (c:=103) (by decide) h2.N)
theorem words_c:∀s:Ps,s.p≤F.length→LC F.length 0 s (if isW F s.p=true then (leafP 7 s,true) else (s,false)):=fun s hs=>
  LC.ite (fun hc=>LC.yes ⟨(gd_leaf (isW_lt hc)).2.2,(gd_leaf (isW_lt hc)).2.1⟩) (fun _=>LC.no (Gd.refl hs))
theorem gd_words {s:Ps} (hs:s.p≤F.length):Gd F.length 0 s (wordsP F s):=Gd.loop words_c _ s rfl hs
theorem gd_in {s:Ps} (hs:s.p<F.length):Gd F.length 1 s (inP F s):=by
  have h0:=(Gd.next (N:=F.length) hs).1
  have h1:=h0.trans (gd_words h0.N)
  refine Gd.ite (fun hc=>?_) (fun _=>Gd.ite (fun _=>?_) (fun _=>?_))
  ·have h2:=(Gd.next (comes_lt hc (by decide))).1
   exact((h1.trans h2).trans (gd_lines h2.N)).mono (by omega)
  ·exact(h1.trans (gd_lines h1.N)).mono (by omega)
  ·simpa using h1.trans (gd_miss h1.N)
theorem gd_each (hL:GL F L) {s:Ps} (hs:s.p≤F.length):Gd F.length 8 s (eachP F L s):=by
  have h1:Gd F.length 1 s (if (isW F s.p&&nameT (tx F s.p))=true then leafP 7 s else missP s):=Gd.ite (fun hc=>(gd_leaf (isW_lt ((Bool.and_eq_true _ _).mp hc).1)).1) (fun _=>gd_miss hs)
  unfold eachP
  generalize (if (isW F s.p&&nameT (tx F s.p))=true then leafP 7 s else missP s)=s1 at h1
  have h2:Gd F.length 1 s1 (if comes F [59] s1=true then linesP F (nextP s1) else if comes F [107] (linesP F s1)=true then inP F (linesP F s1) else linesP F s1):=by
    have h3:=gd_lines h1.N
    refine Gd.ite (fun hc=>?_) (fun _=>Gd.ite (fun hc=>?_) (fun _=>h3.mono (by omega)))
    ·have h2:=(Gd.next (comes_lt hc (by decide))).1
     exact(h2.trans (gd_lines h2.N)).mono (by omega)
    ·simpa using h3.trans (gd_in (comes_lt hc (by decide)))
  exact(h1.trans h2).trans (gd_do hL h2.N)
theorem item_c:∀s:Ps,s.p≤F.length→LC F.length 0 s (if comes F [124] s=true then (wordP F (nextP s),true) else (s,false)):=fun s hs=>
  LC.ite (fun hc=>LC.yes (by
    have h0:=comes_lt hc (by decide)
    exact Gd.paid h0 (gd_word (Gd.next h0).1.N) (by omega))) (fun _=>LC.no (Gd.refl hs))
theorem gd_item (hL:GL F L) {s:Ps} (hs:s.p≤F.length):Gd F.length 6 s (itemP F L s):=by
  have h1:=gd_take (F:=F) (cs:=[40]) (by decide) hs
  have h2:=gd_word h1.N
  have h3:=Gd.loop item_c _ _ rfl h2.N
  have h4:=gd_want (F:=F) (c:=41) (by decide) h3.N
  have h5:=(((h1.trans h2).trans h3).trans h4).trans (gd_lines h4.N)
  refine Gd.ite (fun _=>?_) (fun _=>h5.mono (by omega))
  exact h5.trans (Gd.node0 (A:=3) fun t ht _=>hL t (by have:=h5.N;omega))
theorem item_lt {s:Ps} (h:itemB F s=true):s.p<F.length:=by
  unfold itemB at h
  rcases (Bool.or_eq_true _ _).mp h with h|h
  ·exact sg_lt fun e=>by rw[e] at h;revert h;decide
  ·exact isW_lt ((Bool.and_eq_true _ _).mp h).1
theorem item_go (hL:GL F L) {s:Ps} (h:itemB F s=true):Gd F.length 0 s (nodeP 15 (itemP F L) s)∧s.p<(nodeP 15 (itemP F L) s).p:=by
  have hlt:=item_lt h
  have h1:=Gd.node0 (k:=15) (s:=s) (f:=itemP F L) (A:=6) (N:=F.length) fun t ht _=>gd_item hL (by omega)
  have key:∀t:Ps,t.p=s.p→t.p<(itemP F L t).p∧(itemP F L t).l.length+16*t.p+10≤t.l.length+16*(itemP F L t).p:=fun t e=>by
    have a1:=gd_take (F:=F) (cs:=[40]) (by decide) (s:=t) (by omega)
    have a2:=gd_word a1.N
    have a3:=Gd.loop item_c _ _ rfl a2.N
    have a4:=gd_want (F:=F) (c:=41) (by decide) a3.N
    have a5:=(a3.trans a4).trans (gd_lines a4.N)
    have a6:t.p<(wordP F (takeP F [40] t)).p∧(wordP F (takeP F [40] t)).l.length+16*t.p+15≤t.l.length+16*(wordP F (takeP F [40] t)).p:=by
      by_cases hc:comes F [40] t=true
      ·have:(takeP F [40] t).p=t.p+1:=by unfold takeP;rw[if_pos hc];rfl
       have:=a2.p
       have h9:=a2.b
       rw[take_l] at h9
       omega
      ·have e2:takeP F [40] t=t:=by unfold takeP;rw[if_neg hc]
       rw[e2]
       unfold itemB at h
       have h3:(sg F s.p==40)=false:=by
         unfold comes at hc
         rw[e] at hc
         simpa using hc
       rw[h3] at h
       have h4:isW F t.p=true:=by rw[e];simp at h;exact h.1
       unfold wordP
       rw[if_pos h4]
       have h8:=(gd_leaf (F:=F) (k:=7) (isW_lt h4)).2.1
       refine⟨h8,?_⟩
       have e9:(leafP 7 t).l.length=t.l.length+1:=by show (ndTo (t.l++_) _ _).length=_;rw[ndTo_len];simp
       have e8:(leafP 7 t).p=t.p+1:=rfl
       omega
    have a7:=a5.p
    have a8:=a5.b
    unfold itemP
    by_cases hp:pipeB F (linesP F (wantP F 41 (loopP F.length (fun s=>if comes F [124] s=true then (wordP F (nextP s),true) else (s,false)) (wordP F (takeP F [40] t)))))=true
    ·rw[if_pos hp]
     have h9:=(Gd.node0 (k:=2) (f:=L) (A:=3) (N:=F.length) (s:=(linesP F (wantP F 41 (loopP F.length (fun s=>if comes F [124] s=true then (wordP F (nextP s),true) else (s,false)) (wordP F (takeP F [40] t)))))) fun t ht _=>hL t (by have:=a5.N;omega))
     have:=h9.p
     have:=h9.b
     omega
    ·rw[if_neg hp];omega
  obtain⟨h4,h5⟩:=key {s with l:=s.l++[⟨15,s.p,0,s.up⟩],up:=(s.l.length:Int)} rfl
  refine⟨⟨h1.p,h1.N,h1.l,?_,h1.up,h1.dp,h1.f⟩,h4⟩
  simp only[List.length_append,List.length_singleton] at h5
  show (ndTo _ _ _).length+_≤_
  rw[ndTo_len]
  show (itemP F L {s with l:=s.l++[⟨15,s.p,0,s.up⟩],up:=(s.l.length:Int)}).l.length+16*s.p≤s.l.length+16*(itemP F L {s with l:=s.l++[⟨15,s.p,0,s.up⟩],up:=(s.l.length:Int)}).p+0
  omega
theorem cases_c (hL:GL F L):∀s:Ps,s.p≤F.length→LC F.length 0 s (if itemB F s=true then (if comes F [121] (nodeP 15 (itemP F L) s)=true then (linesP F (nextP (nodeP 15 (itemP F L) s)),true) else (nodeP 15 (itemP F L) s,false)) else (s,false)):=fun s hs=>
  LC.ite (fun hc=>by
    obtain⟨h1,h2⟩:=item_go hL hc
    refine LC.ite (fun hy=>?_) (fun _=>LC.no h1)
    have h3:=Gd.next (comes_lt hy (by decide))
    have h4:=gd_lines h3.1.N
    refine LC.yes ⟨by simpa using (h1.trans h3.1).trans h4,?_⟩
    have:=h3.2.1
    have:=h4.p
    omega) (fun _=>LC.no (Gd.refl hs))
theorem gd_cases (hL:GL F L) {s:Ps} (hs:s.p≤F.length):Gd F.length 3 s (casesP F L s):=by
  have h1:=gd_word hs
  have h2:=gd_lines h1.N
  have h3:=gd_want (F:=F) (c:=107) (by decide) h2.N
  have h4:=gd_lines h3.N
  have h5:=Gd.loop (cases_c hL) _ _ rfl h4.N
  exact((((h1.trans h2).trans h3).trans h4).trans h5).trans (gd_want (F:=F) (c:=122) (by decide) h5.N)
theorem gd_ins (hL:GL F L) (c:UInt8) {s:Ps} (hs:s.p≤F.length):Gd F.length 14 s (insP F L c s):=by
  unfold insP
  have hb:=gd_body hL hs
  repeat' split
  ·exact(hb.trans (gd_want (F:=F) (c:=41) (by decide) hb.N)).mono (by omega)
  ·exact gd_bran hL hs
  ·exact(hb.trans (gd_do hL hb.N)).mono (by omega)
  ·exact(gd_each hL hs).mono (by omega)
  ·exact(gd_cases hL hs).mono (by omega)
  ·exact(hb.trans (gd_want (F:=F) (c:=125) (by decide) hb.N)).mono (by omega)
theorem comp_lt {s:Ps} (h:compB F s=true):s.p<F.length:=comes_lt ((Bool.and_eq_true _ _).mp h).2 (by decide)
theorem cknd_ok (c:UInt8):1≤cknd c∧cknd c≤16:=by
  unfold cknd
  repeat' split
  all_goals omega
theorem gd_comp (hL:GL F L) {s:Ps} (h:s.p<F.length):Gd F.length 0 s (compP F L s)∧s.p<(compP F L s).p:=by
  have h1:∀t:Ps,t.p=s.p→Gd F.length 14 (nextP t) (redirsP F (insP F L (sg F s.p) (nextP t))):=fun t ht=>by
    have h0:=(Gd.next (N:=F.length) (s:=t) (by omega)).1
    have h2:=gd_ins hL (sg F s.p) h0.N
    simpa using h2.trans (gd_redirs h2.N)
  have h3:=Gd.nest (k:=cknd (sg F s.p)) (s:=s) (A:=0) (N:=F.length) (f:=fun t=>redirsP F (insP F L (sg F s.p) (nextP t))) (fun t ht _=>(Gd.paid (by omega) (h1 t ht) (by omega)).1) (cknd_ok _)
  have h4:s.p<(compP F L s).p:=by
    have:=(h1 {s with deep:=s.deep+1,l:=s.l++[⟨cknd (sg F s.p),s.p,0,s.up⟩],up:=(s.l.length:Int)} rfl).p
    exact Nat.lt_of_lt_of_le (Nat.lt_succ_self _) this
  refine⟨⟨h3.p,h3.N,h3.l,?_,h3.up,h3.dp,h3.f⟩,h4⟩
  have hb:=(h1 {s with deep:=s.deep+1,l:=s.l++[⟨cknd (sg F s.p),s.p,0,s.up⟩],up:=(s.l.length:Int)} rfl).b
  show (ndTo _ _ _).length+_≤_
  rw[ndTo_len]
  have e1:(nextP {s with deep:=s.deep+1,l:=s.l++[⟨cknd (sg F s.p),s.p,0,s.up⟩],up:=(s.l.length:Int)}).l.length=s.l.length+1:=by simp[nextP]
  have e2:(nextP {s with deep:=s.deep+1,l:=s.l++[⟨cknd (sg F s.p),s.p,0,s.up⟩],up:=(s.l.length:Int)}).p=s.p+1:=rfl
  rw[e1,e2] at hb
  show (redirsP F (insP F L (sg F s.p) (nextP {s with deep:=s.deep+1,l:=s.l++[⟨cknd (sg F s.p),s.p,0,s.up⟩],up:=(s.l.length:Int)}))).l.length+16*s.p≤s.l.length+16*(redirsP F (insP F L (sg F s.p) (nextP {s with deep:=s.deep+1,l:=s.l++[⟨cknd (sg F s.p),s.p,0,s.up⟩],up:=(s.l.length:Int)}))).p+0
  omega
theorem fun_w {s:Ps} (h:sg F s.p=120):isW F s.p=true:=by
  unfold sg at h
  unfold isW
  cases hx:F[s.p]? with
  | none=>rw[hx] at h;cases h
  | some x=>
    rw[hx] at h
    simp only[sgnL] at h
    simp only[beq_iff_eq]
    by_cases h2:x.kd=2
    ·rw[if_pos h2] at h;cases h
    ·rw[if_neg h2] at h
     by_cases h4:x.kd=4
     ·rw[if_pos h4] at h
      exfalso
      revert h
      generalize opOf x.tx=o
      unfold osgn
      split<;>decide
     ·rw[if_neg h4] at h
      by_cases h5:x.kd=5
      ·rw[if_pos h5] at h;cases h
      ·rw[if_neg h5] at h
       by_cases h6:x.kd=6
       ·exact h6
       ·rw[if_neg h6] at h;cases h
theorem gd_def (hL:GL F L) {s:Ps} (h:sg F s.p=120):Gd F.length 2 s (defP F L s)∧s.p<(defP F L s).p∧(defP F L s).l.length+16*s.p+13≤s.l.length+16*(defP F L s).p:=by
  have hw:=fun_w h
  have h1:=gd_leaf (F:=F) (k:=7) (isW_lt hw)
  have e1:wordP F s=leafP 7 s:=by unfold wordP;rw[if_pos hw]
  have h2:=gd_take (F:=F) (cs:=[40]) (by decide) h1.1.N
  have h3:=gd_want (F:=F) (c:=41) (by decide) h2.N
  have h4:=(h2.trans h3).trans (gd_lines h3.N)
  rw[←e1] at h1 h4
  have hl:(wordP F s).l.length=s.l.length+1∧(wordP F s).p=s.p+1:=by
    rw[e1]
    exact⟨by show (ndTo (s.l++_) _ _).length=_;rw[ndTo_len];simp,rfl⟩
  have h5:Gd F.length 1 (linesP F (wantP F 41 (takeP F [40] (wordP F s)))) (defP F L s):=by
    unfold defP
    exact Gd.ite (fun hc=>(gd_comp hL (comp_lt hc)).1.mono (by omega)) (fun _=>gd_miss h4.N)
  have h6:=h4.trans h5
  have h7:=h6.b
  have h8:=h6.p
  refine⟨⟨?_,h6.N,?_,?_,h6.up.trans h1.1.up,h6.dp.trans h1.1.dp,(h1.1.trans h6).f⟩,?_,?_⟩
  ·omega
  ·have:=h6.l;omega
  ·omega
  ·omega
  ·omega
theorem gd_com (hL:GL F L) {s:Ps} (hs:s.p≤F.length):Gd F.length 1 s (comP F L s):=by
  unfold comP
  refine Gd.ite (fun hc=>(gd_comp hL (comp_lt hc)).1.mono (by omega)) (fun _=>Gd.ite (fun hf=>?_) (fun _=>Gd.ite (fun _=>?_) (fun _=>gd_miss hs)))
  ·have hx:sg F s.p=120:=by unfold funB at hf;simp at hf;exact hf.1
   refine(Gd.nest (k:=16) (A:=0) fun t ht _=>?_)
   have h1:=gd_def hL (s:=t) (by rw[ht];exact hx)
   exact⟨h1.1.p,h1.1.N,h1.1.l,by have:=h1.2.2;omega,h1.1.up,h1.1.dp,h1.1.f⟩
  ·exact Gd.node0 (A:=0) fun t ht _=>gd_simp (by omega)
theorem pipIn_c (hL:GL F L):∀s:Ps,s.p≤F.length→LC F.length 0 s (if comes F [124] s=true then (comP F L (linesP F (nextP s)),true) else (s,false)):=fun s hs=>
  LC.ite (fun hc=>LC.yes (by
    have h0:=comes_lt hc (by decide)
    have h1:=gd_lines (Gd.next h0).1.N
    exact Gd.paid h0 (h1.trans (gd_com hL h1.N)) (by omega))) (fun _=>LC.no (Gd.refl hs))
theorem gd_pipIn (hL:GL F L) {s:Ps} (hs:s.p≤F.length):Gd F.length 1 s (pipInP F L s):=by
  have h1:=gd_take (F:=F) (cs:=[33]) (by decide) hs
  have h2:=gd_com hL h1.N
  exact((h1.trans h2).trans (Gd.loop (pipIn_c hL) _ _ rfl h2.N)).mono (Nat.le_refl _)
theorem gd_pip (hL:GL F L) {s:Ps} (hs:s.p≤F.length):Gd F.length 2 s (pipP F L s):=
  Gd.ite (fun _=>Gd.node0 (A:=1) fun t ht _=>gd_pipIn hL (by omega)) (fun _=>(gd_miss hs).mono (by omega))
theorem and_c (hL:GL F L):∀s:Ps,s.p≤F.length→LC F.length 0 s (if comes F [97,111] s=true then (pipP F L (linesP F (nextP s)),true) else (s,false)):=fun s hs=>
  LC.ite (fun hc=>LC.yes (by
    have h0:=comes_lt hc (by decide)
    have h1:=gd_lines (Gd.next h0).1.N
    exact Gd.paid h0 (h1.trans (gd_pip hL h1.N)) (by omega))) (fun _=>LC.no (Gd.refl hs))
theorem gd_and (hL:GL F L) {s:Ps} (hs:s.p≤F.length):Gd F.length 2 s (andP F L s):=by
  have h1:=gd_pip hL hs
  exact(h1.trans (Gd.loop (and_c hL) _ _ rfl h1.N)).mono (Nat.le_refl _)
theorem lst_c (hL:GL F L):∀s:Ps,s.p≤F.length→LC F.length 3 s (sepP F (nodeP 3 (andP F L) s)):=fun s hs=>by
  have h1:=Gd.node0 (k:=3) (s:=s) (f:=andP F L) (A:=2) (N:=F.length) fun t ht _=>gd_and hL (by omega)
  have key:∀t,Gd F.length 0 (nodeP 3 (andP F L) s) t→(nodeP 3 (andP F L) s).p<t.p→t.l.length+16*(nodeP 3 (andP F L) s).p+16≤(nodeP 3 (andP F L) s).l.length+16*t.p→∀b,LC F.length 3 s (t,b):=fun t ht hlt hb b=>by
    have h2:=h1.trans ht
    have h3:=h1.p
    have h4:=h1.b
    exact⟨fun _=>⟨⟨h2.p,h2.N,h2.l,by show t.l.length+16*s.p≤s.l.length+16*t.p+0;omega,h2.up,h2.dp,h2.f⟩,by show s.p<t.p;omega⟩,fun _=>h2⟩
  have step:∀r:Ps,r.p<F.length→Gd F.length 0 r (linesP F (nextP r))∧r.p<(linesP F (nextP r)).p∧(linesP F (nextP r)).l.length+16*r.p+16≤r.l.length+16*(linesP F (nextP r)).p:=fun r hr=>by
    have a:=Gd.next (N:=F.length) hr
    have b:=gd_lines a.1.N
    exact⟨a.1.trans b,by have:=a.2.1;have:=b.p;omega,by have:=a.2.2;have:=b.b;omega⟩
  unfold sepP
  refine LC.ite (fun hc=>?_) (fun _=>LC.ite (fun hc=>?_) (fun _=>LC.no h1))
  ·obtain⟨a,b,c⟩:=step _ (comes_lt hc (by decide))
   exact key _ a b c _
  ·have e:linesP F (nodeP 3 (andP F L) s)=linesP F (nextP (nodeP 3 (andP F L) s)):=by
     unfold linesP
     rw[LC.eq lines_c _ h1.N]
     simp only[hc,if_true]
   obtain⟨a,b,c⟩:=step _ (comes_lt hc (by decide))
   rw[e]
   exact key _ a b c _
theorem gd_lst (hL:GL F L) {s:Ps} (hs:s.p≤F.length):Gd F.length 3 s (lstP F L s):=Gd.loop (lst_c hL) _ s rfl hs
end
theorem gd_lstF (F:List Lf):∀n,GL F (lstF F n)
  | 0=>fun s hs=>(Gd.refl hs).mono (by omega)
  | n+1=>fun s hs=>gd_lst (gd_lstF F n) hs
def progC (F:List Lf) (L:Ps→Ps) (x:Ps×Bool):(Ps×Bool)×Bool:=
  if comes F [110] x.1=true then ((nextP x.1,x.2),true) else if (!x.2&&pipeB F x.1)=true then ((nodeP 2 L x.1,true),true) else if x.1.p<F.length then ((leafP 17 x.1,false),true) else (x,false)
def progM (x:Ps×Bool):Nat:=2*x.1.p+(if x.2=true then 1 else 0)
def progP (F:List Lf) (L:Ps→Ps) (x:Ps×Bool):Ps×Bool:=loopF (progC F L) (2*F.length+2-progM x) x
theorem pipe_lt {F:List Lf} {s:Ps} (h:pipeB F s=true):s.p<F.length:=by
  refine sg_lt fun e=>?_
  unfold pipeB cmdB redirB compB comes at h
  rw[e] at h
  simp at h
theorem progC_ok {F:List Lf} {L:Ps→Ps} (hL:GL F L) (x:Ps×Bool) (hx:x.1.p≤F.length) (hc:(progC F L x).2=true):progM x<progM (progC F L x).1∧(progC F L x).1.1.p≤F.length∧Gd F.length (if x.2=true then 0 else 4) x.1 (progC F L x).1.1 ∧
    ((progC F L x).1.1.l.length+16*x.1.p+(if (progC F L x).1.2=true then 0 else 4)≤x.1.l.length+16*(progC F L x).1.1.p+(if x.2=true then 0 else 4)):=by
  obtain⟨s,b⟩:=x
  replace hx:s.p≤F.length:=hx
  unfold progC at hc ⊢
  unfold progM
  by_cases h1:comes F [110] s=true
  ·have h2:=Gd.next (comes_lt h1 (by decide))
   simp only[h1,if_true]
   refine⟨?_,h2.1.N,h2.1.mono (by omega),?_⟩
   ·have:=h2.2.1;omega
   ·have:=h2.2.2;omega
  ·simp only[h1,if_false,Bool.false_eq_true] at hc ⊢
   by_cases h2:(!b&&pipeB F s)=true
   ·obtain⟨rfl,h3⟩:b=false∧pipeB F s=true:=by simpa using h2
    have h4:=Gd.node0 (k:=2) (s:=s) (f:=L) (A:=3) (N:=F.length) fun t ht _=>hL t (by omega)
    simp only[h2,if_true,if_false,Bool.false_eq_true]
    refine⟨?_,h4.N,h4,?_⟩
    ·have:=h4.p;omega
    ·have:=h4.b;omega
   ·simp only[h2,if_false,Bool.false_eq_true] at hc ⊢
    by_cases h3:s.p<F.length
    ·have h4:=gd_leaf (F:=F) (k:=17) h3
     have e9:(leafP 17 s).l.length=s.l.length+1:=by show (ndTo (s.l++_) _ _).length=_;rw[ndTo_len];simp
     have e8:(leafP 17 s).p=s.p+1:=rfl
     simp only[h3,if_true,if_false,Bool.false_eq_true]
     refine⟨?_,h4.1.N,h4.2.2.mono (by omega),?_⟩
     ·split<;>omega
     ·split<;>omega
    ·simp only[h3,if_false] at hc
     cases hc
theorem progM_le {F:List Lf} {x:Ps×Bool} (h:x.1.p≤F.length):progM x≤2*F.length+1:=by
  unfold progM
  split<;>omega
theorem progP_eq {F:List Lf} {L:Ps→Ps} (hL:GL F L) (x:Ps×Bool) (hx:x.1.p≤F.length):progP F L x=if (progC F L x).2=true then progP F L (progC F L x).1 else (progC F L x).1:=by
  have h0:=progM_le hx
  unfold progP
  obtain⟨k,hk⟩:∃k,2*F.length+2-progM x=k+1:=⟨2*F.length+1-progM x,by omega⟩
  rw[hk]
  show (if (progC F L x).2=true then loopF (progC F L) k (progC F L x).1 else (progC F L x).1)=_
  have fuel:∀k k' (y:Ps×Bool),y.1.p≤F.length→2*F.length+1<k+progM y→2*F.length+1<k'+progM y→loopF (progC F L) k y=loopF (progC F L) k' y:=by
    intro k
    induction k with
    | zero=>intro k' y hy h1 h2;have:=progM_le hy;omega
    | succ k ih=>
      intro k' y hy h1 h2
      cases k' with
      | zero=>have:=progM_le hy;omega
      | succ k'=>
        unfold loopF
        by_cases hc:(progC F L y).2=true
        ·have:=progC_ok hL y hy hc
         rw[if_pos hc,if_pos hc,ih k' _ this.2.1 (by omega) (by omega)]
        ·rw[if_neg hc,if_neg hc]
  by_cases hc:(progC F L x).2=true
  ·have:=progC_ok hL x hx hc
   rw[if_pos hc,if_pos hc,fuel k (2*F.length+2-progM (progC F L x).1) _ this.2.1 (by omega) (by have:=progM_le this.2.1;omega)]
  ·rw[if_neg hc,if_neg hc]
theorem gd_prog {F:List Lf} {L:Ps→Ps} (hL:GL F L):∀m x,2*F.length+1-progM x=m→x.1.p≤F.length→Gd F.length (if x.2=true then 0 else 4) x.1 (progP F L x).1∧(progP F L x).1.p=F.length:=by
  intro m
  induction m using Nat.strongRecOn with
  | _ m ih=>
    intro x hm hx
    rw[progP_eq hL x hx]
    by_cases hc:(progC F L x).2=true
    ·have h1:=progC_ok hL x hx hc
     have h2:=progM_le h1.2.1
     obtain⟨h3,h4⟩:=ih _ (by omega) _ rfl h1.2.1
     rw[if_pos hc]
     have h5:=h1.2.2.1.trans h3
     have h6:=h1.2.2.2
     have h7:=h3.b
     exact⟨⟨h5.p,h5.N,h5.l,by omega,h5.up,h5.dp,h5.f⟩,h4⟩
    ·rw[if_neg hc]
     obtain⟨s,b⟩:=x
     replace hx:s.p≤F.length:=hx
     unfold progC at hc ⊢
     by_cases h1:comes F [110] s=true
     ·simp[h1] at hc
     ·simp only[h1,if_false,Bool.false_eq_true] at hc ⊢
      by_cases h2:(!b&&pipeB F s)=true
      ·simp[h2] at hc
      ·simp only[h2,if_false,Bool.false_eq_true] at hc ⊢
       by_cases h3:s.p<F.length
       ·simp[h3] at hc
       ·simp only[h3,if_false]
        exact⟨(Gd.refl hx).mono (by omega),by show s.p=_;omega⟩
def ps0 (a:Nat):Ps:=⟨a,[], -1,0⟩
abbrev lstA (F:List Lf):Ps→Ps:=lstF F (F.length+1)
def parseT (F:List Lf):Ps:=nodeP 1 (fun s=>(progP F (lstA F) (s,false)).1) (ps0 0)
theorem gd_parse (F:List Lf):Gd F.length 5 (ps0 0) (parseT F)∧(parseT F).p=F.length:=by
  have h:=fun t (ht:t.p=(ps0 0).p)=>gd_prog (gd_lstF F (F.length+1)) _ (t,false) rfl (by rw[ht];exact Nat.zero_le _)
  exact⟨Gd.node0 (A:=4) fun t ht _=>(h t ht).1,(h {ps0 0 with l:=(ps0 0).l++[⟨1,(ps0 0).p,0,(ps0 0).up⟩],up:=((ps0 0).l.length:Int)} rfl).2⟩
end Go.Proofs.YtlbfdbinaekjoaaGreatDoor
