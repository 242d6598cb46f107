/- parse.faults, parse.Clean and parse.Faults: the nodes that are Errors or Missings. -/
import Derived.Test.YtcagfamdoaoimaaGreatDoorMb13
import Derived.Test.YtcagfamdoaoimaaGreatDoorRfy
import Derived.Test.YtcagfamdoaoimaaGreatDoorQc13
import Derived.Test.YtcagfamdoaoimaaGreatDoorPl13
import Derived.RangeFuncNested
import Derived.Shelf.Abstract
import Derived.OwnWalkIn
import Derived.BigQuiet
set_option linter.unusedVariables false
set_option linter.unusedSimpArgs false
set_option maxRecDepth 100000
set_option maxHeartbeats 8000000
namespace Go.Proofs.YtcagfamdoaoimaaGreatDoor
open Go.RowKit
section
open Go.RowKit
attribute [local go_sem] Oper.semAt_some
end
section
open Go.RowKit Go.ChangeShapes Go.WideShapes Go.Deep
end
inductive xG (l:List Nd) (a:Nat):Nat→Prop
  | refl:xG l a a
  | step {b c:Nat} {n:Nd}:l[b]? = some n→n.up=(c:Int)→c<b→xG l a c→xG l a b
theorem xG.app {l:List Nd} {a b:Nat} (h:xG l a b) (m:List Nd):xG (l++m) a b:=by
  induction h with
  | refl=>exact .refl
  | step h1 h2 h3 _ ih=>exact .step (by rw[aW (ay.1 h1).1];exact h1) h2 h3 ih
theorem xG.trans {l:List Nd} {a b c:Nat} (h:xG l a b) (k:xG l b c):xG l a c:=by
  induction k with
  | refl=>exact h
  | step h1 h2 h3 _ ih=>exact .step h1 h2 h3 ih
structure DY (l:List Nd) (i:Nat) (n:Nd):Prop where
  k:NG n.kd n.fr n.tt
  le:n.fr≤n.tt
  u:0<i→∃(u:Nat) (m:Nd),n.up=(u:Int)∧u<i∧xG l u (i-1)∧l[u]? = some m∧m.fr≤n.fr∧n.tt≤m.tt∧∀(k:Nat) (q:Nd),0<k→k<i→l[k]? = some q→q.up=n.up→q.tt≤n.fr
theorem DY.app {l:List Nd} {i:Nat} {n:Nd} (h:DY l i n) (hi:i<l.length∨i=l.length) (m:List Nd):DY (l++m) i n:=by
  refine⟨h.k,h.le,fun h0=>?_⟩;obtain⟨u,p,h1,h2,h3,h4,h5,h6,h7⟩:=h.u h0;refine⟨u,p,h1,h2,h3.app m,by rw[aW (ay.1 h4).1];exact h4,h5,h6,fun k q k0 k1 k2 k3=>h7 k q k0 k1 ?_ k3⟩
  rwa [aW (by omega)] at k2
def pa (l:List Nd):Prop:=∀(i:Nat) (n:Nd),l[i]? = some n→DY l i n
theorem pa.snoc {l:List Nd} (h:pa l) {n:Nd} (hn:DY l l.length n):pa (l++[n]):=by
  intro i m hm;rcases bZ i l.length with hi|hi
  ·rw[aW hi] at hm
   exact(h i m hm).app (.inl hi) _
  ·have hlt:=(ay.1 hm).1;simp only[aH,cR] at hlt;obtain rfl:i=l.length:=by omega
   rw[aX (au _)] at hm;simp at hm;subst hm;exact hn.app (.inr rfl) _
theorem Fo.row {b:Nat} {u:Int} {a c:Nat} {l:List Nd} (h:Fo b u a c l):∀(pre:List Nd) (v:Nat) (m:Nd),pre.length=b→u=(v:Int)→v<b→pa pre→xG pre v (b-1)→pre[v]? = some m→m.fr≤a→c≤m.tt →
    (∀(k:Nat) (q:Nd),0<k→pre[k]? = some q→q.up=u→q.tt≤a) →
    pa (pre++l)∧xG (pre++l) v (b+l.length-1)∧(∀(k:Nat) (q:Nd),0<k→(pre++l)[k]? = some q→q.up=u→q.tt≤c)∧(∀(k:Nat) (q:Nd),b≤k→(pre++l)[k]? = some q→q.up=u∨(b:Int)≤q.up):=by
  induction h with
  | nil h=>
    intro pre v m h1 h2 h3 h4 h5 h6 h7 h8 h9;rw[bz];exact⟨h4,h5,fun k q k0 k1 k2=>aA (h9 k q k0 k1 k2) h,fun k q k0 k1=>by have:=(ay.1 k1).1;omega⟩
  | @cons b u a c k x y ks r e1 e2 e3 e4 e5 ih1 ih2=>
    intro pre v m h1 h2 h3 h4 h5 h6 h7 h8 h9;have hyc:=e5.le;have hn:DY pre pre.length ⟨k,x,y,u⟩:=⟨e3,e2,fun _=>⟨v,m,h2,by omega,by rw[h1];exact h5,h6,by show m.fr≤x;omega,by show y≤m.tt;omega,fun k' q k0 k1 k2 k3=>aA (h9 k' q k0 k2 k3) e1⟩⟩;have r1:=h4.snoc hn;have g0:(pre++[⟨k,x,y,u⟩])[b]? = some ⟨k,x,y,u⟩:=by rw[aX (by omega),h1];simp
    have up0:∀(j:Nat) (q:Nd),0<j→j<b→pre[j]? = some q→q.up<(b:Int):=fun j q j0 j1 j2=>by
      obtain⟨w,_,w1,w2,_⟩:=(h4 j q j2).u j0;omega
    obtain⟨r2,r3,r4,r5⟩:=ih1 (pre++[⟨k,x,y,u⟩]) b ⟨k,x,y,u⟩ (by simp[h1]) rfl (by omega) r1 (by rw[show b+1-1=b by omega];exact .refl) g0 (au _) (au _) (fun j q j0 j1 j2=>by
      rcases bZ j b with hj|hj
      ·rw[aW (by omega)] at j1
       have:=up0 j q j0 hj j1
       omega
      ·have:=(ay.1 j1).1
       simp only[aH,cR] at this;obtain rfl:j=b:=by omega
       rw[g0] at j1;injection j1 with j1
       subst j1;have j2:u=_:=j2;omega)
    have g1:(pre++[⟨k,x,y,u⟩]++ks)[v]? = some m:=by
      rw[cO,aW (by omega)];exact h6
    have g2:(pre++[⟨k,x,y,u⟩]++ks)[b]? = some ⟨k,x,y,u⟩:=by
      rw[aW (by simp;omega)];exact g0
    have a1:xG (pre++[⟨k,x,y,u⟩]++ks) v b:=by
      refine .step g2 h2 h3 ?_;exact .refl
    obtain⟨r6,r7,r8,r9⟩:=ih2 (pre++[⟨k,x,y,u⟩]++ks) v m (by simp;omega) h2 (by omega) r2 (by
        have:=a1.trans r3
        rwa [show b+1+ks.length-1=b+1+ks.length-1 from rfl] at this) g1 (by omega) h8 (fun j q j0 j1 j2=>by
      rcases bZ j b with hj|hj
      ·rw[cO,aW (by omega)] at j1
       have:=h9 j q j0 j1 j2
       omega
      ·rcases bZ j (b+1) with hj2|hj2
       ·obtain rfl:j=b:=by omega
        rw[g2] at j1;injection j1 with j1
        subst j1;exact au _
       ·rcases r5 j q hj2 j1 with h|h
        ·omega
        ·omega)
    have e:pre++⟨k,x,y,u⟩::(ks++r)=pre++[⟨k,x,y,u⟩]++ks++r:=by simp
    rw[e];refine⟨r6,?_,r8,fun j q j0 j1=>?_⟩
    ·rw[show b+(⟨k,x,y,u⟩::(ks++r):List Nd).length-1=b+1+ks.length+r.length-1 by simp;omega];exact r7
    ·rcases bZ j (b+1+ks.length) with hj|hj
     ·rw[aW (by simp;omega)] at j1;rcases bZ j (b+1) with hj2|hj2
      ·obtain rfl:j=b:=by omega
       rw[g2] at j1;injection j1 with j1
       subst j1;exact .inl rfl
      ·rcases r5 j q hj2 j1 with h|h
       ·exact .inr (by omega)
       ·exact .inr (by omega)
     ·rcases r9 j q hj j1 with h|h
      ·exact .inl h
      ·exact .inr (by omega)
theorem vA (F:List Lf):pa (eP F).l∧∃r,(eP F).l=⟨1,0,F.length, -1⟩::r:=by
  have h:=fun t (ht:t.p=(iW 0).p)=>mT (jp F (F.length+1)) _ (t,false) rfl (by rw[ht];exact bv _)
  obtain⟨h1,h2⟩:=h {iW 0 with l:=(iW 0).l++[⟨1,(iW 0).p,0,(iW 0).up⟩],up:=((iW 0).l.length:Int)} rfl;obtain⟨m,h3,h4⟩:=h1.f;have e:(eP F).l=⟨1,0,F.length, -1⟩::m:=by
    show iQ (g9 F (wU F (F.length+1)) ({iW 0 with l:=(iW 0).l++[⟨1,(iW 0).p,0,(iW 0).up⟩],up:=((iW 0).l.length:Int)},false)).1.l 0 (g9 F (wU F (F.length+1)) ({iW 0 with l:=(iW 0).l++[⟨1,(iW 0).p,0,(iW 0).up⟩],up:=((iW 0).l.length:Int)},false)).1.p=_;rw[h3,h2];rfl
  have r0:pa [⟨1,0,F.length, -1⟩]:=by
    intro i n hn
    have:=(ay.1 hn).1
    simp at this;subst this;simp at hn;subst hn;exact⟨⟨au _,Nat.le_add_left 1 17,fun e=>absurd (show 1=17 from e) (by decide),fun e=>absurd (show 1=18 from e) (by decide)⟩,bv _,fun h=>absurd h (Nat.lt_irrefl _)⟩
  have h5:Fo 1 ((0:Nat):Int) 0 F.length m:=by rw[h2] at h4;exact h4
  have h6:=h5.row [⟨1,0,F.length, -1⟩] 0 _ rfl rfl (by omega) r0 .refl rfl (bv _) (au _) (fun k q k0 k1 _=>by
    have:=(ay.1 k1).1
    simp at this;omega)
  rw[e];exact⟨h6.1,m,rfl⟩
end Go.Proofs.YtcagfamdoaoimaaGreatDoor
