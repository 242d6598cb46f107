/- quillwortlaw13.awake, and ParseFaults: the walks. -/
import Derived.Test.YtokmnkmpdnlnaaaGreatDoorQf13
import Derived.Test.YtokmnkmpdnlnaaaGreatDoorPl13
import Derived.BigQuiet
namespace Go.Proofs.YtokmnkmpdnlnaaaGreatDoor
open Go.RowKit
set_option linter.unusedVariables false
set_option linter.unusedSimpArgs false
set_option maxRecDepth 100000
def awk13:List UInt8:=[105,102,32,97,59,32,116,104,101,110]
theorem awk13_flt:fltK ((parseT (lvs3 awk13)).l.map nz) ((parseT (lvs3 awk13)).l.map nz).length=[10,11]:=by kernel_rfl
set_option maxHeartbeats 2000000 in
theorem awake13_c (w:World):Calls Tryz.prog 10 #[] w fun e w'=>e=.returned (.bool true)∧Below w.heap.size w w':=by
  obtain⟨Z,hZ⟩:∃Z,Z=(parseT (lvs3 awk13)).l.map nz:=⟨_,rfl⟩
  obtain⟨N,hN⟩:∃N,N=(parseT (lvs3 awk13)).l.length:=⟨_,rfl⟩
  have hzl:Z.length=N:=by rw[hZ,hN,List.length_map]
  have hN9:N≤100000:=by
    have h1:=parse_len (lvs3 awk13)
    have h2:=(lvs3_fb awk13 (by decide)).n
    omega
  have hf:fltK Z Z.length=[10,11]:=by rw[hZ];exact awk13_flt
  have c1:∀W,Calls Tryz.prog 17 #[.string ⟨#[105,102,32,97,59,32,116,104,101,110]⟩] W fun e w'=>∃v1 v2,e=.returned (.tuple #[v1,v2])∧w'.ownsRow W.heap.size 32 4 v2 N (nzcs Z)∧Below W.heap.size W w':=fun W=>by
    refine(pof_m awk13 W (by decide)).mono ?_
    rintro e w' ⟨v1,v2,rfl,_,h2,h3⟩
    rw[ndcs_nz,←hZ,←hN] at h2
    exact⟨v1,v2,rfl,h2,h3⟩
  have c2:∀(A:Option Addr) (c:Nat) W,Rd W W.heap.size 4 (.slice A N c) N (nzcs Z)→Calls Tryz.prog 19 #[.slice A N c] W fun e w'=>∃v,e=.returned v∧w'.ownsRow W.heap.size 3 1 v 2 (ics [10,11])∧Below W.heap.size W w':=fun A c W hR=>by
    have h:=faults_m c Z A W (by omega) (by rw[hzl];exact hR)
    rw[hf,hzl] at h
    exact h
  have c3:∀(A:Option Addr) (c:Nat) W,Rd W W.heap.size 4 (.slice A N c) N (nzcs Z)→Calls Tryz.prog 20 #[.slice A N c] W fun e w'=>e=.returned (.bool false)∧Below W.heap.size W w':=fun A c W hR=>by
    have h:=clean_m c Z A W (by omega) (by rw[hzl];exact hR)
    rw[hf,hzl] at h
    exact h
  have HC:=Lib.hid (And.intro c1 (And.intro c2 c3))
  clear c1 c2 c3 hf hzl hZ hN hN9
  go_enter Tryz.func10,Tryz.ntmps10
  go_wp2_with (first
    | (go_at_call 17
       with_reducible refine(HC.out.1 _).mono ?_
       rintro e w1 ⟨v1,v2,rfl,ho,hb⟩
       obtain⟨A1,n1,c1,rfl⟩:=own_form' ho
       obtain rfl:=own_len ho
       have H1:=Lib.hid (And.intro ho hb)
       clear ho hb)
    | (go_at_call 19
       refine(HC.out.2.1 _ _ _ (Rd.of_own H1.out.1)).mono ?_
       rintro e w2 ⟨v,rfl,ho,hb⟩
       obtain⟨A2,n2,c2,rfl⟩:=own_form' ho
       have hn2:=own_len ho
       subst hn2
       have H2:=Lib.hid (And.intro (own_below H1.out.1 hb) (H1.out.2.trans (hb.mono H1.out.2.size)))
       clear ho hb)
    | (go_at_call 20
       refine(HC.out.2.2 _ _ _ (Rd.of_own H2.out.1)).mono ?_
       rintro e w3 ⟨rfl,hb⟩
       have H3:=Lib.hid (H2.out.2.trans (hb.mono H2.out.2.size))
       clear hb)
    | fail)
  go_ret
  exact⟨rfl,H3.out⟩
end Go.Proofs.YtokmnkmpdnlnaaaGreatDoor
namespace Go.Proofs.YtokmnkmpdnlnaaaGreatDoor
open Go.RowKit Go.ChangeShapes Go.WideShapes Go.Deep
set_option linter.unusedVariables false
set_option linter.unusedSimpArgs false
set_option maxRecDepth 100000
theorem stays_argl {H:Type} {enc:TypeId×Value→H} {P:Program} {t:TypeId} (hl:laidOutB P=true) (hr:P.readableRec t=true) (hrow:t<P.types.size) {W W':World} {sp':Nat→Bool} {v:Value} {d:DataW H} {ps:List MemPlace}
    (h:DataW.Trod enc P W 0 (fun _=>true) true t v d ps) (hb:Below W.heap.size W W') (hlt:∀x∈ps,x.block<W.heap.size) (hs:∀x∈ps,sp' x.block=true):DataW.Trod enc P W' 0 sp' true t v d ps:=
  WideElems.Trod_stays hl hr hrow h (fun x hx=>hb.same (hlt x hx)) hs
theorem lf_row (r:List Value) (hl:r.length=[FK.i,FK.s,FK.i,FK.i].length) (h:Qk [.i,.s,.i,.i] r):∃x:Lf,r=lfc x:=by
  obtain⟨v0,h0,a,rfl,_⟩:=h 0 .i rfl
  obtain⟨v1,h1,l,rfl,_⟩:=h 1 .s rfl
  obtain⟨v2,h2,b,rfl,_⟩:=h 2 .i rfl
  obtain⟨v3,h3,c,rfl,_⟩:=h 3 .i rfl
  match r,hl with
  | [x,y,z,u],_=>
    simp at h0 h1 h2 h3
    subst h0 h1 h2 h3
    exact⟨⟨a,l,b,c⟩,rfl⟩
theorem lf_rows (rows:List (List Value)) (h:∀r∈rows,r.length=[FK.i,FK.s,FK.i,FK.i].length∧Qk [.i,.s,.i,.i] r):∃xs:List Lf,rows.flatten=lfcs xs∧xs.length=rows.length:=rows_data lfc lf_row rows h
end Go.Proofs.YtokmnkmpdnlnaaaGreatDoor
namespace Go.Proofs.YtokmnkmpdnlnaaaGreatDoor
set_option linter.unusedVariables false
set_option linter.unusedSimpArgs false
set_option maxRecDepth 100000
inductive Anc (l:List Nd) (a:Nat):Nat→Prop
  | refl:Anc l a a
  | step {b c:Nat} {n:Nd}:l[b]? = some n→n.up=(c:Int)→c<b→Anc l a c→Anc l a b
theorem Anc.app {l:List Nd} {a b:Nat} (h:Anc l a b) (m:List Nd):Anc (l++m) a b:=by
  induction h with
  | refl=>exact .refl
  | step h1 h2 h3 _ ih=>exact .step (by rw[List.getElem?_append_left (List.getElem?_eq_some_iff.1 h1).1];exact h1) h2 h3 ih
theorem Anc.trans {l:List Nd} {a b c:Nat} (h:Anc l a b) (k:Anc l b c):Anc l a c:=by
  induction k with
  | refl=>exact h
  | step h1 h2 h3 _ ih=>exact .step h1 h2 h3 ih
structure NdOk (l:List Nd) (i:Nat) (n:Nd):Prop where
  k:okN n.kd n.fr n.tt
  le:n.fr≤n.tt
  u:0<i→∃(u:Nat) (m:Nd),n.up=(u:Int)∧u<i∧Anc l u (i-1)∧l[u]? = some m∧m.fr≤n.fr∧n.tt≤m.tt∧∀(k:Nat) (q:Nd),0<k→k<i→l[k]? = some q→q.up=n.up→q.tt≤n.fr
theorem NdOk.app {l:List Nd} {i:Nat} {n:Nd} (h:NdOk l i n) (hi:i<l.length∨i=l.length) (m:List Nd):NdOk (l++m) i n:=by
  refine⟨h.k,h.le,fun h0=>?_⟩
  obtain⟨u,p,h1,h2,h3,h4,h5,h6,h7⟩:=h.u h0
  refine⟨u,p,h1,h2,h3.app m,by rw[List.getElem?_append_left (List.getElem?_eq_some_iff.1 h4).1];exact h4,h5,h6,fun k q k0 k1 k2 k3=>h7 k q k0 k1 ?_ k3⟩
  rwa [List.getElem?_append_left (by omega)] at k2
def RowOk (l:List Nd):Prop:=∀(i:Nat) (n:Nd),l[i]? = some n→NdOk l i n
theorem RowOk.snoc {l:List Nd} (h:RowOk l) {n:Nd} (hn:NdOk l l.length n):RowOk (l++[n]):=by
  intro i m hm
  rcases Nat.lt_or_ge i l.length with hi|hi
  ·rw[List.getElem?_append_left hi] at hm
   exact(h i m hm).app (.inl hi) _
  ·have hlt:=(List.getElem?_eq_some_iff.1 hm).1
   simp only[List.length_append,List.length_singleton] at hlt
   obtain rfl:i=l.length:=by omega
   rw[List.getElem?_append_right (Nat.le_refl _)] at hm
   simp at hm
   subst hm
   exact hn.app (.inr rfl) _
theorem Fo.row {b:Nat} {u:Int} {a c:Nat} {l:List Nd} (h:Fo b u a c l):∀(pre:List Nd) (v:Nat) (m:Nd),pre.length=b→u=(v:Int)→v<b→RowOk pre→Anc pre v (b-1)→pre[v]? = some m→m.fr≤a→c≤m.tt →
    (∀(k:Nat) (q:Nd),0<k→pre[k]? = some q→q.up=u→q.tt≤a) →
    RowOk (pre++l)∧Anc (pre++l) v (b+l.length-1)∧(∀(k:Nat) (q:Nd),0<k→(pre++l)[k]? = some q→q.up=u→q.tt≤c)∧(∀(k:Nat) (q:Nd),b≤k→(pre++l)[k]? = some q→q.up=u∨(b:Int)≤q.up):=by
  induction h with
  | nil h=>
    intro pre v m h1 h2 h3 h4 h5 h6 h7 h8 h9
    rw[List.append_nil]
    exact⟨h4,h5,fun k q k0 k1 k2=>Nat.le_trans (h9 k q k0 k1 k2) h,fun k q k0 k1=>by have:=(List.getElem?_eq_some_iff.1 k1).1;omega⟩
  | @cons b u a c k x y ks r e1 e2 e3 e4 e5 ih1 ih2=>
    intro pre v m h1 h2 h3 h4 h5 h6 h7 h8 h9
    have hyc:=e5.le
    have hn:NdOk pre pre.length ⟨k,x,y,u⟩:=⟨e3,e2,fun _=>⟨v,m,h2,by omega,by rw[h1];exact h5,h6,by show m.fr≤x;omega,by show y≤m.tt;omega,fun k' q k0 k1 k2 k3=>Nat.le_trans (h9 k' q k0 k2 k3) e1⟩⟩
    have r1:=h4.snoc hn
    have g0:(pre++[⟨k,x,y,u⟩])[b]? = some ⟨k,x,y,u⟩:=by rw[List.getElem?_append_right (by omega),h1];simp
    have up0:∀(j:Nat) (q:Nd),0<j→j<b→pre[j]? = some q→q.up<(b:Int):=fun j q j0 j1 j2=>by
      obtain⟨w,_,w1,w2,_⟩:=(h4 j q j2).u j0
      omega
    obtain⟨r2,r3,r4,r5⟩:=ih1 (pre++[⟨k,x,y,u⟩]) b ⟨k,x,y,u⟩ (by simp[h1]) rfl (by omega) r1 (by rw[show b+1-1=b by omega];exact .refl) g0 (Nat.le_refl _) (Nat.le_refl _) (fun j q j0 j1 j2=>by
      rcases Nat.lt_or_ge j b with hj|hj
      ·rw[List.getElem?_append_left (by omega)] at j1
       have:=up0 j q j0 hj j1
       omega
      ·have:=(List.getElem?_eq_some_iff.1 j1).1
       simp only[List.length_append,List.length_singleton] at this
       obtain rfl:j=b:=by omega
       rw[g0] at j1
       injection j1 with j1
       subst j1
       have j2:u=_:=j2
       omega)
    have g1:(pre++[⟨k,x,y,u⟩]++ks)[v]? = some m:=by
      rw[List.append_assoc,List.getElem?_append_left (by omega)]
      exact h6
    have g2:(pre++[⟨k,x,y,u⟩]++ks)[b]? = some ⟨k,x,y,u⟩:=by
      rw[List.getElem?_append_left (by simp;omega)]
      exact g0
    have a1:Anc (pre++[⟨k,x,y,u⟩]++ks) v b:=by
      refine .step g2 h2 h3 ?_
      exact .refl
    obtain⟨r6,r7,r8,r9⟩:=ih2 (pre++[⟨k,x,y,u⟩]++ks) v m (by simp;omega) h2 (by omega) r2 (by
        have:=a1.trans r3
        rwa [show b+1+ks.length-1=b+1+ks.length-1 from rfl] at this) g1 (by omega) h8 (fun j q j0 j1 j2=>by
      rcases Nat.lt_or_ge j b with hj|hj
      ·rw[List.append_assoc,List.getElem?_append_left (by omega)] at j1
       have:=h9 j q j0 j1 j2
       omega
      ·rcases Nat.lt_or_ge j (b+1) with hj2|hj2
       ·obtain rfl:j=b:=by omega
        rw[g2] at j1
        injection j1 with j1
        subst j1
        exact Nat.le_refl _
       ·rcases r5 j q hj2 j1 with h|h
        ·omega
        ·omega)
    have e:pre++⟨k,x,y,u⟩::(ks++r)=pre++[⟨k,x,y,u⟩]++ks++r:=by simp
    rw[e]
    refine⟨r6,?_,r8,fun j q j0 j1=>?_⟩
    ·rw[show b+(⟨k,x,y,u⟩::(ks++r):List Nd).length-1=b+1+ks.length+r.length-1 by simp;omega]
     exact r7
    ·rcases Nat.lt_or_ge j (b+1+ks.length) with hj|hj
     ·rw[List.getElem?_append_left (by simp;omega)] at j1
      rcases Nat.lt_or_ge j (b+1) with hj2|hj2
      ·obtain rfl:j=b:=by omega
       rw[g2] at j1
       injection j1 with j1
       subst j1
       exact .inl rfl
      ·rcases r5 j q hj2 j1 with h|h
       ·exact .inr (by omega)
       ·exact .inr (by omega)
     ·rcases r9 j q hj j1 with h|h
      ·exact .inl h
      ·exact .inr (by omega)
theorem parse_row (F:List Lf):RowOk (parseT F).l∧∃r,(parseT F).l=⟨1,0,F.length, -1⟩::r:=by
  have h:=fun t (ht:t.p=(ps0 0).p)=>gd_prog (gd_lstF F (F.length+1)) _ (t,false) rfl (by rw[ht];exact Nat.zero_le _)
  obtain⟨h1,h2⟩:=h {ps0 0 with l:=(ps0 0).l++[⟨1,(ps0 0).p,0,(ps0 0).up⟩],up:=((ps0 0).l.length:Int)} rfl
  obtain⟨m,h3,h4⟩:=h1.f
  have e:(parseT F).l=⟨1,0,F.length, -1⟩::m:=by
    show ndTo (progP F (lstF F (F.length+1)) ({ps0 0 with l:=(ps0 0).l++[⟨1,(ps0 0).p,0,(ps0 0).up⟩],up:=((ps0 0).l.length:Int)},false)).1.l 0 (progP F (lstF F (F.length+1)) ({ps0 0 with l:=(ps0 0).l++[⟨1,(ps0 0).p,0,(ps0 0).up⟩],up:=((ps0 0).l.length:Int)},false)).1.p=_
    rw[h3,h2]
    rfl
  have r0:RowOk [⟨1,0,F.length, -1⟩]:=by
    intro i n hn
    have:=(List.getElem?_eq_some_iff.1 hn).1
    simp at this
    subst this
    simp at hn
    subst hn
    exact⟨⟨Nat.le_refl _,Nat.le_add_left 1 17,fun e=>absurd (show 1=17 from e) (by decide),fun e=>absurd (show 1=18 from e) (by decide)⟩,Nat.zero_le _,fun h=>absurd h (Nat.lt_irrefl _)⟩
  have h5:Fo 1 ((0:Nat):Int) 0 F.length m:=by rw[h2] at h4;exact h4
  have h6:=h5.row [⟨1,0,F.length, -1⟩] 0 _ rfl rfl (by omega) r0 .refl rfl (Nat.zero_le _) (Nat.le_refl _) (fun k q k0 k1 _=>by
    have:=(List.getElem?_eq_some_iff.1 k1).1
    simp at this
    omega)
  rw[e]
  exact⟨h6.1,m,rfl⟩
end Go.Proofs.YtokmnkmpdnlnaaaGreatDoor
namespace Go.Proofs.YtokmnkmpdnlnaaaGreatDoor
open Go.RowKit
set_option linter.unusedVariables false
set_option linter.unusedSimpArgs false
set_option maxRecDepth 100000
theorem lfc_lens (x:Lf):(lfc x).length=4:=rfl
def shT (x:Lf):Bool:=decide (x.tx.length≤60)
def shF (F:List Lf) (m:Int):Bool:=decide ((F.length:Int)≤m)&&F.all shT
theorem shF_no {F:List Lf} {m:Int} {k:Nat} {x:Lf} (hx:F[k]? = some x) (h:shT x=false):shF F m=false:=by
  unfold shF
  rw[Bool.and_eq_false_iff]
  refine .inr ?_
  rw[List.all_eq_false]
  exact⟨x,List.mem_of_getElem? hx,by rw[h];decide⟩
theorem shF_yes {F:List Lf} {m:Int} (hl:(F.length:Int)≤m) (h:∀x∈F,shT x=true):shF F m=true:=by
  unfold shF
  rw[Bool.and_eq_true]
  exact⟨decide_eq_true hl,List.all_eq_true.2 h⟩
theorem shF_fb {F:List Lf} (h:shF F 40=true):F.length≤40∧∀x∈F,x.tx.length≤60:=by
  unfold shF at h
  rw[Bool.and_eq_true] at h
  refine⟨by have:=of_decide_eq_true h.1;omega,fun x hx=>of_decide_eq_true (List.all_eq_true.1 h.2 x hx)⟩
set_option maxHeartbeats 2000000 in
theorem short_m (F:List Lf) (A:Option Addr) (c:Nat) (m:Int) (w:World) (hm:F.length≤9223372036854775807) (h:Rd w w.heap.size 4 (.slice A F.length c) F.length (lfcs F)) :
    Calls Tryz.prog 11 #[.slice A F.length c,.int .i64 m] w fun e w'=>e=.returned (.bool (shF F m))∧w'=w:=by
  have H0:=Lib.hid h
  clear h
  go_enter Tryz.func11,Tryz.ntmps11
  by_cases hlm:m<(F.length:Int)
  ·go_wp2
   go_ret
   exact⟨by unfold shF;rw[decide_eq_false (by omega)];rfl,rfl⟩
  ·have hlm2:=Lib.hid hlm
   go_wp2
   go_loopw [5] (fun i wr=>∃k:Nat,k≤F.length∧i=.int .i64 k∧wr=w∧∀x∈F.take k,shT x=true) (fun i _=>F.length-(intOf i).toNat)
   case atStart=>exact⟨0,Nat.zero_le _,rfl,rfl,fun x hx=>by simp at hx⟩
   case round=>
     obtain⟨k,hk,rfl,rfl,hI⟩:=hrel
     by_cases hlt:k<F.length
     ·have u1:(k:Int)<(F.length:Int):=by omega
      have u2:(0:Int)≤(k:Int):=by omega
      obtain⟨x,hx⟩:∃x,F[k]? = some x:=⟨_,List.getElem?_eq_getElem hlt⟩
      obtain⟨g,o,rfl,_,hc⟩:=rd_sat lfc_lens H0.out hx rfl
      have y1:wr.cell? ⟨g,o+k*4+1,none⟩=some (.string ⟨x.tx.toArray⟩):=hc 1 _ rfl
      have HX:=Lib.hid (And.intro hI hx)
      clear hI hx hc
      by_cases hd:(60:Int)<(x.tx.length:Int)
      ·go_wp2
       go_ret
       exact⟨by rw[shF_no HX.out.2 (by unfold shT;rw[decide_eq_false (by omega)])];rfl,rfl⟩
      ·go_wp2
       refine⟨⟨k+1,by omega,by go_num,trivial,fun y hy=>?_⟩,by simp[intOf]<;>omega⟩
       rw[List.take_add_one,HX.out.2] at hy
       rcases List.mem_append.1 hy with hy|hy
       ·exact HX.out.1 y hy
       ·obtain rfl:y=x:=by simpa using hy
        exact decide_eq_true (by omega)
     ·obtain rfl:k=F.length:=by omega
      rw[List.take_length] at hI
      have HX:=Lib.hid hI
      clear hI
      go_wp2
      go_ret
      exact⟨by rw[shF_yes (by have:=hlm2.out;omega) HX.out];rfl,rfl⟩
set_option maxHeartbeats 2000000 in
theorem above_m (L:List Nd) (A:Option Addr) (c a b:Nat) (w:World) (hl:L.length≤100000) (hrd:Rd w w.heap.size 4 (.slice A L.length c) L.length (ndcs L)) (hb:b<L.length) (h:Anc L a b) :
    Calls Tryz.prog 37 #[.slice A L.length c,.int .i64 (a:Int),.int .i64 (b:Int)] w fun e w'=>e=.returned (.bool true)∧w'=w:=by
  have HC:=Lib.hid (And.intro hrd h)
  clear hrd h
  go_enter Tryz.func37,Tryz.ntmps37
  go_wp2
  go_loopw [2] (fun i wr=>∃k:Nat,k<L.length∧i=.int .i64 k∧Anc L a k∧wr=w) (fun i _=>(intOf i).toNat)
  case atStart=>exact⟨b,hb,rfl,HC.out.2,rfl⟩
  case round=>
    obtain⟨k,hk,rfl,hA,rfl⟩:=hrel
    have u2:(0:Int)≤(k:Int):=by omega
    by_cases hak:a=k
    ·subst hak
     clear hA
     go_wp2
     go_ret
     exact⟨rfl,rfl⟩
    ·have t1:((a:Int)==(k:Int))=false:=beq_false_of_ne (by omega)
     have u1:(k:Int)<(L.length:Int):=by omega
     cases hA with
     | refl=>exact absurd rfl hak
     | @step _ c2 n h1 h2 h3 h4=>
       obtain⟨g,o,rfl,_,hc⟩:=rd_sat ndc_len HC.out.1 h1 rfl
       have z3:wr.cell? ⟨g,o+k*4+3,none⟩=some (.int .i64 n.up):=hc 3 _ rfl
       rw[h2] at z3
       have HX:=Lib.hid h4
       clear hc h4 h2 h1
       go_wp2
       exact⟨⟨c2,by omega,rfl,HX.out,trivial⟩,by simp[intOf]<;>omega⟩
set_option maxHeartbeats 4000000 in
theorem right_m (L:List Nd) (A:Option Addr) (c nl:Nat) (w:World) (hl:L.length≤100000) (hrd:Rd w w.heap.size 4 (.slice A L.length c) L.length (ndcs L)) (hok:RowOk L) (h0:L[0]? = some ⟨1,0,nl, -1⟩) :
    Calls Tryz.prog 16 #[.slice A L.length c,.int .i64 (nl:Int)] w fun e w'=>e=.returned (.bool true)∧Below w.heap.size w w':=by
  have c1:∀W (u i:Nat),Below w.heap.size w W→i<L.length→Anc L u i→Calls Tryz.prog 37 #[.slice A L.length c,.int .i64 (u:Int),.int .i64 (i:Int)] W fun e w'=>e=.returned (.bool true)∧w'=W:=
    fun W u i hW hi hA=>above_m L A c u i W hl ((hrd.keep hW (Nat.le_refl _)).mono hW.size) hi hA
  have hne:0<L.length:=(List.getElem?_eq_some_iff.1 h0).1
  have hne1:((L.length:Int)==0)=false:=beq_false_of_ne (by omega)
  have hne2:(0:Int)<(L.length:Int):=by omega
  obtain⟨g,o,rfl,hgl,hc0⟩:=rd_sat ndc_len hrd h0 rfl
  have y1:w.cell? ⟨g,o+1,none⟩=some (.int .i64 0):=hc0 1 _ rfl
  have y2:w.cell? ⟨g,o+2,none⟩=some (.int .i64 (nl:Int)):=hc0 2 _ rfl
  have y3:w.cell? ⟨g,o+3,none⟩=some (.int .i64 (-1)):=hc0 3 _ rfl
  have HC:=Lib.hid (And.intro c1 (And.intro hrd hok))
  clear c1 hrd hok hc0 h0
  go_enter Tryz.func16,Tryz.ntmps16
  go_wp2_with fail
  clear y1 y2 y3
  go_loopw [5] (fun i wr=>∃k:Nat,k≤L.length∧i=.int .i64 k∧Below w.heap.size w wr) (fun i _=>L.length-(intOf i).toNat)
  case atStart=>exact⟨0,Nat.zero_le _,rfl,Below.refl _ _⟩
  case round=>
    obtain⟨k,hk,rfl,hb⟩:=hrel
    by_cases hlt:k<L.length
    ·have u1:(k:Int)<(L.length:Int):=by omega
     have u2:(0:Int)≤(k:Int):=by omega
     obtain⟨x,hx⟩:∃x,L[k]? = some x:=⟨_,List.getElem?_eq_getElem hlt⟩
     have hR:=HC.out.2.1.keep hb (Nat.le_refl _)
     obtain⟨g0,o0,e0,_,hc⟩:=rd_sat ndc_len hR hx rfl
     cases e0
     have z0:wr.cell? ⟨g,o+k*4,none⟩=some (.int .i64 (x.kd:Int)):=hc 0 _ rfl
     have z1:wr.cell? ⟨g,o+k*4+1,none⟩=some (.int .i64 (x.fr:Int)):=hc 1 _ rfl
     have z2:wr.cell? ⟨g,o+k*4+2,none⟩=some (.int .i64 (x.tt:Int)):=hc 2 _ rfl
     have z3:wr.cell? ⟨g,o+k*4+3,none⟩=some (.int .i64 x.up):=hc 3 _ rfl
     have hn:=HC.out.2.2 k x hx
     obtain⟨zk,hzk⟩:∃z:Int,z=(x.kd:Int):=⟨_,rfl⟩
     obtain⟨zf,hzf⟩:∃z:Int,z=(x.fr:Int):=⟨_,rfl⟩
     obtain⟨zt,hzt⟩:∃z:Int,z=(x.tt:Int):=⟨_,rfl⟩
     have t1:decide (zk<1)=false:=decide_eq_false (by have:=hn.k.1;omega)
     have t2:decide ((18:Int)<zk)=false:=decide_eq_false (by have:=hn.k.2.1;omega)
     have t3:decide (zt<zf)=false:=decide_eq_false (by have:=hn.le;omega)
     rw[←hzk] at z0
     rw[←hzf] at z1
     rw[←hzt] at z2
     by_cases hk0:k=0
     ·subst hk0
      have HB:=Lib.hid hb
      clear hb hR hc hn hx hzk hzf hzt
      simp only[Nat.zero_mul,Nat.add_zero] at z0 z1 z2
      go_wp2
      go_quiet (fail)
      go_wp2
      exact⟨⟨1,by omega,by go_num,below_drewN' HB.out _⟩,by simp[intOf]<;>omega⟩
     ·have t4:((k:Int)==0)=false:=beq_false_of_ne (by omega)
      obtain⟨u,m,n1,n2,n3,n4,n5,n6,n7⟩:=hn.u (by omega)
      obtain⟨g0,o0,e0,_,hcu⟩:=rd_sat ndc_len hR n4 rfl
      cases e0
      have v1:wr.cell? ⟨g,o+u*4+1,none⟩=some (.int .i64 (m.fr:Int)):=hcu 1 _ rfl
      have v2:wr.cell? ⟨g,o+u*4+2,none⟩=some (.int .i64 (m.tt:Int)):=hcu 2 _ rfl
      rw[n1] at z3
      have u3:(0:Int)≤(u:Int):=by omega
      have u4:(u:Int)<(L.length:Int):=by omega
      have t5:decide ((u:Int)<0)=false:=decide_eq_false (by omega)
      have t6:decide ((k:Int)≤(u:Int))=false:=decide_eq_false (by omega)
      have t6b:decide (k≤u)=false:=decide_eq_false (by omega)
      obtain⟨yf,hyf⟩:∃z:Int,z=(m.fr:Int):=⟨_,rfl⟩
      obtain⟨yt,hyt⟩:∃z:Int,z=(m.tt:Int):=⟨_,rfl⟩
      rw[←hyf] at v1
      rw[←hyt] at v2
      have t7:decide (zf<yf)=false:=decide_eq_false (by omega)
      have t8:decide (yt<zt)=false:=decide_eq_false (by omega)
      have e1:(k:Int)-1=((k-1:Nat):Int):=by omega
      have h9:∀(j:Nat) (q:Nd),0<j→j<k→L[j]? = some q→q.up=(u:Int)→(q.tt:Int)≤zf:=fun j q j0 j1 j2 j3=>by rw[hzf];exact Int.ofNat_le.2 (n7 j q j0 j1 j2 (by rw[j3,n1]))
      have HB:=Lib.hid (And.intro hb (And.intro n3 (And.intro h9 (And.intro e1 (And.intro hx hzf)))))
      clear hb hR hc hn hx hcu n1 n3 n4 n5 n6 n7 h9 e1 hzk hzf hzt hyf hyt
      go_wp2
      go_quiet (fail)
      go_wp2
      go_quiet (first
        | (go_at_call 37
           first|rw[HB.out.2.2.2.1]|skip
           refine(HC.out.1 _ _ _ (below_drewN' HB.out.1 _) (by omega) HB.out.2.1).mono ?_
           rintro e w' ⟨rfl,rfl⟩
           exact⟨rfl,_,rfl⟩))
      go_wp2
      have hbW:=below_drewN' HB.out.1 nq
      have HB2:=Lib.hid hbW
      clear hbW
      go_loopw [7] (fun i wr=>∃j:Nat,1≤j∧j≤k∧i=.int .i64 j∧Below w.heap.size w wr) (fun i _=>k-(intOf i).toNat)
      case atStart=>exact⟨1,Nat.le_refl _,by omega,rfl,by first|exact below_drewN' HB.out.1 _|exact below_drewN' (below_drewN' HB.out.1 _) _⟩
      case round=>
        obtain⟨j,hj1,hj,rfl,hb⟩:=hrel
        by_cases hjk:j<k
        ·have p1:(j:Int)<(k:Int):=by omega
         have p2:(0:Int)≤(j:Int):=by omega
         have p3:(j:Int)<(L.length:Int):=by omega
         obtain⟨q,hq⟩:∃q,L[j]? = some q:=⟨_,List.getElem?_eq_getElem (by omega)⟩
         have hR:=HC.out.2.1.keep hb (Nat.le_refl _)
         obtain⟨g0,o0,e0,_,hc⟩:=rd_sat ndc_len hR hq rfl
         cases e0
         obtain⟨g0,o0,e0,_,hcx⟩:=rd_sat ndc_len hR HB.out.2.2.2.2.1 rfl
         cases e0
         have q2:wr.cell? ⟨g,o+j*4+2,none⟩=some (.int .i64 (q.tt:Int)):=hc 2 _ rfl
         have q3:wr.cell? ⟨g,o+j*4+3,none⟩=some (.int .i64 q.up):=hc 3 _ rfl
         have x1:wr.cell? ⟨g,o+k*4+1,none⟩=some (.int .i64 zf):=by rw[HB.out.2.2.2.2.2];exact hcx 1 _ rfl
         obtain⟨yq,hyq⟩:∃z:Int,z=(q.tt:Int):=⟨_,rfl⟩
         rw[←hyq] at q2
         by_cases hup:q.up=(u:Int)
         ·have w1:(q.up==(u:Int))=true:=by rw[hup];simp
          have w2:decide (zf<yq)=false:=decide_eq_false (by have:=HB.out.2.2.1 j q (by omega) hjk hq hup;omega)
          have HJ:=Lib.hid hb
          clear hb hR hc hcx hq hup hyq
          go_wp2
          go_quiet (fail)
          go_wp2
          exact⟨⟨j+1,by omega,by omega,by go_num,below_drewN' HJ.out _⟩,by simp[intOf]<;>omega⟩
         ·have w1:(q.up==(u:Int))=false:=beq_false_of_ne hup
          have HJ:=Lib.hid hb
          clear hb hR hc hcx hq hyq
          go_wp2
          go_quiet (fail)
          go_wp2
          exact⟨⟨j+1,by omega,by omega,by go_num,below_drewN' HJ.out _⟩,by simp[intOf]<;>omega⟩
        ·obtain rfl:j=k:=by omega
         have HJ:=Lib.hid hb
         clear hb
         go_wp2
         exact⟨⟨j+1,by omega,by go_num,HJ.out⟩,by simp[intOf]<;>omega⟩
    ·obtain rfl:k=L.length:=by omega
     have HB:=Lib.hid hb
     clear hb
     go_wp2
     go_ret
     exact⟨rfl,HB.out⟩
end Go.Proofs.YtokmnkmpdnlnaaaGreatDoor
namespace Go.Proofs.YtokmnkmpdnlnaaaGreatDoor
open Go.RowKit
set_option linter.unusedVariables false
set_option linter.unusedSimpArgs false
set_option maxRecDepth 100000
theorem row_tt {L:List Nd} {N:Nat} (h:RowOk L) (h0:L[0]? = some ⟨1,0,N, -1⟩):∀(i:Nat) (x:Nd),L[i]? = some x→x.tt≤N:=by
  intro i
  induction i using Nat.strongRecOn with
  | ind i ih=>
    intro x hx
    by_cases hi:i=0
    ·subst hi
     rw[h0] at hx
     injection hx with hx
     subst hx
     exact Nat.le_refl _
    ·obtain⟨u,m,_,hu,_,hm,_,h6,_⟩:=(h i x hx).u (by omega)
     exact Nat.le_trans h6 (ih u hu m hm)
set_option maxHeartbeats 4000000 in
theorem parseShape_w (F:List Lf) (A:Option Addr) (n c:Nat) (w:World) (hrd:Rd w w.heap.size 4 (.slice A n c) n (lfcs F)) (hn:n=F.length) (hm1:n≤9223372036854775807) :
    Calls Tryz.prog 5 #[.slice A n c] w fun e w'=>e=.returned (.bool true)∧Below w.heap.size w w':=by
  subst hn
  have s1:∀W,Below w.heap.size w W→Calls Tryz.prog 11 #[.slice A F.length c,.int .i64 40] W fun e w'=>e=.returned (.bool (shF F 40))∧w'=W:=
    fun W hW=>short_m F A c 40 W hm1 ((hrd.keep hW (Nat.le_refl _)).mono hW.size)
  cases hsh:shF F 40 with
  | false=>
    rw[hsh] at s1
    have HS:=Lib.hid s1
    clear s1 hrd hsh
    go_enter Tryz.func5,Tryz.ntmps5
    go_wp2_with (first
      | (go_at_call 10
         refine(awake13_c _).mono ?_
         rintro e w1 ⟨rfl,hb⟩
         have H1:=Lib.hid hb
         clear hb)
      | (go_at_call 11
         refine(HS.out _ H1.out).mono ?_
         rintro e w2 ⟨rfl,rfl⟩)
      | fail)
    go_ret
    exact⟨rfl,H1.out⟩
  | true=>
    obtain⟨hl,ht⟩:=shF_fb hsh
    rw[hsh] at s1
    have hF:FB F:=⟨by omega,fun x hx=>by have:=ht x hx;omega⟩
    obtain⟨hok,r,hr⟩:=parse_row F
    have hlen:=parse_len F
    have hP:∀W,Below w.heap.size w W→Calls Tryz.prog 13 #[.slice A F.length c] W fun e w'=>∃v,e=.returned v∧w'.ownsRow W.heap.size 32 4 v (parseT F).l.length (ndcs (parseT F).l)∧Below W.heap.size W w':=
      fun W hW=>parse_m F _ W hF ((hrd.keep hW (Nat.le_refl _)).mono hW.size)
    have h0:(parseT F).l[0]? = some ⟨1,0,F.length, -1⟩:=by rw[hr];rfl
    obtain⟨L,hL⟩:∃L,L=(parseT F).l:=⟨_,rfl⟩
    rw[←hL] at hP hok hlen h0
    have hl9:L.length≤100000:=by omega
    have c4:∀(A2:Option Addr) (c2:Nat) (W:World),Rd W W.heap.size 4 (.slice A2 L.length c2) L.length (ndcs L)→Calls Tryz.prog 16 #[.slice A2 L.length c2,.int .i64 (F.length:Int)] W fun e w'=>e=.returned (.bool true)∧Below W.heap.size W w':=
      fun A2 c2 W h=>right_m L A2 c2 F.length W hl9 h hok h0
    have htt:=row_tt hok h0
    have hpos:0<L.length:=(List.getElem?_eq_some_iff.1 h0).1
    have hne2:(0:Int)<(L.length:Int):=by omega
    have HC:=Lib.hid (And.intro s1 (And.intro hP (And.intro c4 (And.intro hok (And.intro h0 htt)))))
    clear s1 hP c4 hok h0 htt hrd hsh hr hL hF ht
    go_enter Tryz.func5,Tryz.ntmps5
    go_wp2_with (first
      | (go_at_call 10
         refine(awake13_c _).mono ?_
         rintro e w1 ⟨rfl,hb⟩
         have H1:=Lib.hid hb
         clear hb)
      | (go_at_call 11
         refine(HC.out.1 _ H1.out).mono ?_
         rintro e w2 ⟨rfl,rfl⟩)
      | (go_at_call 13
         with_reducible refine(HC.out.2.1 _ H1.out).mono ?_
         rintro e w2 ⟨v,rfl,ho,hb⟩
         obtain⟨A2,n2,c2,rfl⟩:=own_form' ho
         have hn2:=own_len ho
         subst hn2
         obtain⟨g,o,rfl,_,hc⟩:=rd_sat ndc_len (Rd.of_own ho) HC.out.2.2.2.2.1 rfl
         have y0:w2.cell? ⟨g,o,none⟩=some (.int .i64 1):=hc 0 _ rfl
         have H2:=Lib.hid (And.intro (Rd.of_own ho) (H1.out.trans (hb.mono H1.out.size)))
         clear ho hb hc)
      | (go_at_call 16
         with_reducible refine(HC.out.2.2.1 _ _ _ H2.out.1).mono ?_
         rintro e w3 ⟨rfl,hb⟩
         have y0':=bkp hb y0
         have H3:=Lib.hid (And.intro (H2.out.1.next hb) (H2.out.2.trans (hb.mono H2.out.2.size)))
         clear hb)
      | fail)
    clear y0 y0'
    go_loopw [4] (fun i wr=>∃k:Nat,k≤L.length∧i=.int .i64 k∧Below w3.heap.size w3 wr) (fun i _=>L.length-(intOf i).toNat)
    case atStart=>exact⟨0,Nat.zero_le _,rfl,Below.refl _ _⟩
    case round=>
      obtain⟨k,hk,rfl,hb⟩:=hrel
      by_cases hlt:k<L.length
      ·have u1:(k:Int)<(L.length:Int):=by omega
       have u2:(0:Int)≤(k:Int):=by omega
       obtain⟨x,hx⟩:∃x,L[k]? = some x:=⟨_,List.getElem?_eq_getElem hlt⟩
       obtain⟨g0,o0,e0,_,hc⟩:=rd_sat ndc_len (H3.out.1.next hb) hx rfl
       cases e0
       have z0:wr.cell? ⟨g,o+k*4,none⟩=some (.int .i64 (x.kd:Int)):=hc 0 _ rfl
       have z1:wr.cell? ⟨g,o+k*4+1,none⟩=some (.int .i64 (x.fr:Int)):=hc 1 _ rfl
       have z2:wr.cell? ⟨g,o+k*4+2,none⟩=some (.int .i64 (x.tt:Int)):=hc 2 _ rfl
       have hn:=HC.out.2.2.2.1 k x hx
       have hxt:=HC.out.2.2.2.2.2 k x hx
       have hle:=hn.le
       have ok:=hn.k
       obtain⟨zk,hzk⟩:∃z:Int,z=(x.kd:Int):=⟨_,rfl⟩
       obtain⟨zf,hzf⟩:∃z:Int,z=(x.fr:Int):=⟨_,rfl⟩
       obtain⟨zt,hzt⟩:∃z:Int,z=(x.tt:Int):=⟨_,rfl⟩
       rw[←hzk] at z0
       rw[←hzf] at z1
       rw[←hzt] at z2
       have b1:0≤zf:=by omega
       have b2:zf≤40:=by omega
       have key:(x.kd=17)∨(x.kd≠17∧x.kd=18)∨(x.kd≠17∧x.kd≠18):=by omega
       have HB:=Lib.hid hb
       rcases key with h17|⟨h17,h18⟩|⟨h17,h18⟩
       case' inl=>
         have t1:(zk==17)=true:=by rw[hzk,h17];rfl
         have t2:(zk==18)=false:=by rw[hzk,h17];rfl
         have t3:(zt != zf+1)=false:=by rw[hzt,hzf,ok.2.2.1 h17];simp
       case' inr.inl=>
         have t1:(zk==17)=false:=by rw[hzk,h18];rfl
         have t2:(zk==18)=true:=by rw[hzk,h18];rfl
         have t3:(zt != zf)=false:=by rw[hzt,hzf,ok.2.2.2 h18];simp
       case' inr.inr=>
         have t1:(zk==17)=false:=beq_false_of_ne (by omega)
         have t2:(zk==18)=false:=beq_false_of_ne (by omega)
       all_goals (
         clear hb hc hx hn hxt hle ok hzk hzf hzt h17
         try clear h18
         go_wp2
         go_quiet (fail)
         go_wp2
         exact⟨⟨k+1,by omega,by go_num,below_drewN' HB.out _⟩,by simp[intOf]<;>omega⟩)
      ·obtain rfl:k=L.length:=by omega
       have HB:=Lib.hid (H3.out.2.trans (hb.mono H3.out.2.size))
       clear hb
       go_wp2
       go_ret
       exact⟨rfl,HB.out⟩
end Go.Proofs.YtokmnkmpdnlnaaaGreatDoor
