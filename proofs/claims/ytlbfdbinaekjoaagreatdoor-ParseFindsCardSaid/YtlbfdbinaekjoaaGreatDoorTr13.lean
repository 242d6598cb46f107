/- A forest is a right tree. No program is in sight. -/
import Derived.Test.YtlbfdbinaekjoaaGreatDoorPl13
namespace Go.Proofs.YtlbfdbinaekjoaaGreatDoor
set_option linter.unusedVariables false
set_option linter.unusedSimpArgs false
set_option maxRecDepth 100000
inductive Anc (l:List Nd) (a:Nat):Nat→Prop
  | refl:Anc l a a
  | step {b c:Nat} {n:Nd}:l[b]? = some n→n.up=(c:Int)→c<b→Anc l a c→Anc l a b
theorem Anc.app {l:List Nd} {a b:Nat} (h:Anc l a b) (m:List Nd):Anc (l++m) a b:=by
  induction h with
  | refl=>exact .refl
  | step h1 h2 h3 _ ih=>exact .step (by rw[List.getElem?_append_left (List.getElem?_eq_some_iff.1 h1).1];exact h1) h2 h3 ih
theorem Anc.trans {l:List Nd} {a b c:Nat} (h:Anc l a b) (k:Anc l b c):Anc l a c:=by
  induction k with
  | refl=>exact h
  | step h1 h2 h3 _ ih=>exact .step h1 h2 h3 ih
structure NdOk (l:List Nd) (i:Nat) (n:Nd):Prop where
  k:okN n.kd n.fr n.tt
  le:n.fr≤n.tt
  u:0<i→∃(u:Nat) (m:Nd),n.up=(u:Int)∧u<i∧Anc l u (i-1)∧l[u]? = some m∧m.fr≤n.fr∧n.tt≤m.tt∧∀(k:Nat) (q:Nd),0<k→k<i→l[k]? = some q→q.up=n.up→q.tt≤n.fr
theorem NdOk.app {l:List Nd} {i:Nat} {n:Nd} (h:NdOk l i n) (hi:i<l.length∨i=l.length) (m:List Nd):NdOk (l++m) i n:=by
  refine⟨h.k,h.le,fun h0=>?_⟩
  obtain⟨u,p,h1,h2,h3,h4,h5,h6,h7⟩:=h.u h0
  refine⟨u,p,h1,h2,h3.app m,by rw[List.getElem?_append_left (List.getElem?_eq_some_iff.1 h4).1];exact h4,h5,h6,fun k q k0 k1 k2 k3=>h7 k q k0 k1 ?_ k3⟩
  rwa [List.getElem?_append_left (by omega)] at k2
def RowOk (l:List Nd):Prop:=∀(i:Nat) (n:Nd),l[i]? = some n→NdOk l i n
theorem RowOk.snoc {l:List Nd} (h:RowOk l) {n:Nd} (hn:NdOk l l.length n):RowOk (l++[n]):=by
  intro i m hm
  rcases Nat.lt_or_ge i l.length with hi|hi
  ·rw[List.getElem?_append_left hi] at hm
   exact(h i m hm).app (.inl hi) _
  ·have hlt:=(List.getElem?_eq_some_iff.1 hm).1
   simp only[List.length_append,List.length_singleton] at hlt
   obtain rfl:i=l.length:=by omega
   rw[List.getElem?_append_right (Nat.le_refl _)] at hm
   simp at hm
   subst hm
   exact hn.app (.inr rfl) _
theorem Fo.row {b:Nat} {u:Int} {a c:Nat} {l:List Nd} (h:Fo b u a c l):∀(pre:List Nd) (v:Nat) (m:Nd),pre.length=b→u=(v:Int)→v<b→RowOk pre→Anc pre v (b-1)→pre[v]? = some m→m.fr≤a→c≤m.tt →
    (∀(k:Nat) (q:Nd),0<k→pre[k]? = some q→q.up=u→q.tt≤a) →
    RowOk (pre++l)∧Anc (pre++l) v (b+l.length-1)∧(∀(k:Nat) (q:Nd),0<k→(pre++l)[k]? = some q→q.up=u→q.tt≤c)∧(∀(k:Nat) (q:Nd),b≤k→(pre++l)[k]? = some q→q.up=u∨(b:Int)≤q.up):=by
  induction h with
  | nil h=>
    intro pre v m h1 h2 h3 h4 h5 h6 h7 h8 h9
    rw[List.append_nil]
    exact⟨h4,h5,fun k q k0 k1 k2=>Nat.le_trans (h9 k q k0 k1 k2) h,fun k q k0 k1=>by have:=(List.getElem?_eq_some_iff.1 k1).1;omega⟩
  | @cons b u a c k x y ks r e1 e2 e3 e4 e5 ih1 ih2=>
    intro pre v m h1 h2 h3 h4 h5 h6 h7 h8 h9
    have hyc:=e5.le
    have hn:NdOk pre pre.length ⟨k,x,y,u⟩:=⟨e3,e2,fun _=>⟨v,m,h2,by omega,by rw[h1];exact h5,h6,by show m.fr≤x;omega,by show y≤m.tt;omega,fun k' q k0 k1 k2 k3=>Nat.le_trans (h9 k' q k0 k2 k3) e1⟩⟩
    have r1:=h4.snoc hn
    have g0:(pre++[⟨k,x,y,u⟩])[b]? = some ⟨k,x,y,u⟩:=by rw[List.getElem?_append_right (by omega),h1];simp
    have up0:∀(j:Nat) (q:Nd),0<j→j<b→pre[j]? = some q→q.up<(b:Int):=fun j q j0 j1 j2=>by
      obtain⟨w,_,w1,w2,_⟩:=(h4 j q j2).u j0
      omega
    obtain⟨r2,r3,r4,r5⟩:=ih1 (pre++[⟨k,x,y,u⟩]) b ⟨k,x,y,u⟩ (by simp[h1]) rfl (by omega) r1 (by rw[show b+1-1=b by omega];exact .refl) g0 (Nat.le_refl _) (Nat.le_refl _) (fun j q j0 j1 j2=>by
      rcases Nat.lt_or_ge j b with hj|hj
      ·rw[List.getElem?_append_left (by omega)] at j1
       have:=up0 j q j0 hj j1
       omega
      ·have:=(List.getElem?_eq_some_iff.1 j1).1
       simp only[List.length_append,List.length_singleton] at this
       obtain rfl:j=b:=by omega
       rw[g0] at j1
       injection j1 with j1
       subst j1
       have j2:u=_:=j2
       omega)
    have g1:(pre++[⟨k,x,y,u⟩]++ks)[v]? = some m:=by
      rw[List.append_assoc,List.getElem?_append_left (by omega)]
      exact h6
    have g2:(pre++[⟨k,x,y,u⟩]++ks)[b]? = some ⟨k,x,y,u⟩:=by
      rw[List.getElem?_append_left (by simp;omega)]
      exact g0
    have a1:Anc (pre++[⟨k,x,y,u⟩]++ks) v b:=by
      refine .step g2 h2 h3 ?_
      exact .refl
    obtain⟨r6,r7,r8,r9⟩:=ih2 (pre++[⟨k,x,y,u⟩]++ks) v m (by simp;omega) h2 (by omega) r2 (by
        have:=a1.trans r3
        rwa [show b+1+ks.length-1=b+1+ks.length-1 from rfl] at this) g1 (by omega) h8 (fun j q j0 j1 j2=>by
      rcases Nat.lt_or_ge j b with hj|hj
      ·rw[List.append_assoc,List.getElem?_append_left (by omega)] at j1
       have:=h9 j q j0 j1 j2
       omega
      ·rcases Nat.lt_or_ge j (b+1) with hj2|hj2
       ·obtain rfl:j=b:=by omega
        rw[g2] at j1
        injection j1 with j1
        subst j1
        exact Nat.le_refl _
       ·rcases r5 j q hj2 j1 with h|h
        ·omega
        ·omega)
    have e:pre++⟨k,x,y,u⟩::(ks++r)=pre++[⟨k,x,y,u⟩]++ks++r:=by simp
    rw[e]
    refine⟨r6,?_,r8,fun j q j0 j1=>?_⟩
    ·rw[show b+(⟨k,x,y,u⟩::(ks++r):List Nd).length-1=b+1+ks.length+r.length-1 by simp;omega]
     exact r7
    ·rcases Nat.lt_or_ge j (b+1+ks.length) with hj|hj
     ·rw[List.getElem?_append_left (by simp;omega)] at j1
      rcases Nat.lt_or_ge j (b+1) with hj2|hj2
      ·obtain rfl:j=b:=by omega
       rw[g2] at j1
       injection j1 with j1
       subst j1
       exact .inl rfl
      ·rcases r5 j q hj2 j1 with h|h
       ·exact .inr (by omega)
       ·exact .inr (by omega)
     ·rcases r9 j q hj j1 with h|h
      ·exact .inl h
      ·exact .inr (by omega)
theorem parse_row (F:List Lf):RowOk (parseT F).l∧∃r,(parseT F).l=⟨1,0,F.length, -1⟩::r:=by
  have h:=fun t (ht:t.p=(ps0 0).p)=>gd_prog (gd_lstF F (F.length+1)) _ (t,false) rfl (by rw[ht];exact Nat.zero_le _)
  obtain⟨h1,h2⟩:=h {ps0 0 with l:=(ps0 0).l++[⟨1,(ps0 0).p,0,(ps0 0).up⟩],up:=((ps0 0).l.length:Int)} rfl
  obtain⟨m,h3,h4⟩:=h1.f
  have e:(parseT F).l=⟨1,0,F.length, -1⟩::m:=by
    show ndTo (progP F (lstF F (F.length+1)) ({ps0 0 with l:=(ps0 0).l++[⟨1,(ps0 0).p,0,(ps0 0).up⟩],up:=((ps0 0).l.length:Int)},false)).1.l 0 (progP F (lstF F (F.length+1)) ({ps0 0 with l:=(ps0 0).l++[⟨1,(ps0 0).p,0,(ps0 0).up⟩],up:=((ps0 0).l.length:Int)},false)).1.p=_
    rw[h3,h2]
    rfl
  have r0:RowOk [⟨1,0,F.length, -1⟩]:=by
    intro i n hn
    have:=(List.getElem?_eq_some_iff.1 hn).1
    simp at this
    subst this
    simp at hn
    subst hn
    exact⟨⟨Nat.le_refl _,Nat.le_add_left 1 17,fun e=>absurd (show 1=17 from e) (by decide),fun e=>absurd (show 1=18 from e) (by decide)⟩,Nat.zero_le _,fun h=>absurd h (Nat.lt_irrefl _)⟩
  have h5:Fo 1 ((0:Nat):Int) 0 F.length m:=by rw[h2] at h4;exact h4
  have h6:=h5.row [⟨1,0,F.length, -1⟩] 0 _ rfl rfl (by omega) r0 .refl rfl (Nat.zero_le _) (Nat.le_refl _) (fun k q k0 k1 _=>by
    have:=(List.getElem?_eq_some_iff.1 k1).1
    simp at this
    omega)
  rw[e]
  exact⟨h6.1,m,rfl⟩
end Go.Proofs.YtlbfdbinaekjoaaGreatDoor
