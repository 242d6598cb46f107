/- Iterators of ints that hold memory of their own: what a yield is asked, how far one has come. -/
import Derived.Test.YtgdifhhioahakaaGreatDoorRfy
import Derived.Test.YtgdifhhioahakaaGreatDoorMem
namespace Go.Proofs.YtgdifhhioahakaaGreatDoor
open Go.RowKit
set_option linter.unusedVariables false
set_option linter.unusedSimpArgs false
set_option maxRecDepth 100000
theorem Rt.same {W W':World} {e:TypeId} {sz n:Nat} {v:Value} {xs:List Value} (h:Rt W e sz v n xs) (hk:∀g o m c,v=.slice (some ⟨g,o,none⟩) m c→W'.heap[g]? = W.heap[g]?):Rt W' e sz v n xs:=by
  obtain⟨h1,A,c,rfl,h3,h4,h5,h6⟩:=h
  refine⟨h1,A,c,rfl,h3,h4,h5,fun hn=>?_⟩
  obtain⟨g,o,cur,fr,rfl,hg,hc⟩:=h6 hn
  have hg':=(hk g o n c rfl).trans hg
  refine⟨g,o,cur,fr,rfl,hg',fun j u hj=>?_⟩
  rw[cell_of_row W' g _ cur e fr hg',←cell_of_row W g _ cur e fr hg]
  exact hc j u hj
abbrev encC (x:Nat):Array Value:=#[.int .i64 (x:Int)]
def YC (l':Nat) (N:List Nat) (n₀:Nat) (Xc:Nat→Prop) (J Jx:(Nat→Prop)→List Nat→World→Prop):Prop:=
  ∀X pre x W1,J X pre W1→pre++[x]<+:N→∀m,YieldAt Fence.wide m Tryz.prog l' (encC x) W1 fun e W'=>
   (e=.returned (.bool true)∧J X (pre++[x]) W'∧KeepX n₀ Xc W1 W'∧∀k,X k→W'.heap[k]? = W1.heap[k]?)∨(e=.returned (.bool false)∧Jx X (pre++[x]) W'∧KeepX n₀ Xc W1 W'∧∀k,X k→W'.heap[k]? = W1.heap[k]?)
structure D24 {α:Type} (J:(Nat→Prop)→List α→World→Prop) (W wr:World) (n₀:Nat) (Xc X X':Nat→Prop) (pr:List α):Prop where
  j:J X' pr wr
  xx:∀k,X k→X' k
  sm:∀k,X k→wr.heap[k]? = W.heap[k]?
  kx:KeepX n₀ Xc W wr
  xn:∀k,X' k→n₀≤k∧k<wr.heap.size
  wn:n₀≤W.heap.size
section
variable {α:Type} {J:(Nat→Prop)→List α→World→Prop} {W W1 wr:World} {n₀:Nat} {Xc X X1 X':Nat→Prop} {pr pr1:List α}
theorem D24.start (hj:J X pr W) (xn:∀k,X k→n₀≤k∧k<W.heap.size) (wn:n₀≤W.heap.size):D24 J W W n₀ Xc X X pr:=
  ⟨hj,fun _ h=>h,fun _ _=>rfl,KeepX.refl _ _ _,xn,wn⟩
theorem D24.here (h:D24 J W wr n₀ Xc X X' pr):D24 J wr wr n₀ Xc X' X' pr:=D24.start h.j h.xn (Nat.le_trans h.wn h.kx.size)
theorem D24.then (h:D24 J W W1 n₀ Xc X X1 pr1) (h':D24 J W1 wr n₀ Xc X1 X' pr):D24 J W wr n₀ Xc X X' pr:=
  ⟨h'.j,fun k hk=>h'.xx k (h.xx k hk),fun k hk=>(h'.sm k (h.xx k hk)).trans (h.sm k hk),h.kx.trans h'.kx,h'.xn,h.wn⟩
theorem D24.below (hF:Fits J) (h:D24 J W wr n₀ Xc X X' pr) {w':World} (hb:Below wr.heap.size wr w'):D24 J W w' n₀ Xc X (xNew X' wr w') pr:=by
  have hw:=Nat.le_trans h.wn h.kx.size
  exact⟨hF _ _ _ _ h.j (XG.of_below hb),fun k hk=>.inl (h.xx k hk),fun k hk=>(hb.block k (h.xn k (h.xx k hk)).2).trans (h.sm k hk),h.kx.trans (KeepX.of_below hb hw),fun k hk=>by
    rcases hk with hk|hk
    ·have:=h.xn k hk;have:=hb.size;omega
    ·omega,h.wn⟩
theorem D24.next (h:D24 J W wr n₀ Xc X X' pr) {w':World} {pr':List α} (hj:J X' pr' w') (hk:KeepX n₀ Xc wr w') (hs:∀k,X' k→w'.heap[k]? = wr.heap[k]?):D24 J W w' n₀ Xc X X' pr':=
  ⟨hj,h.xx,fun k hk'=>(hs k (h.xx k hk')).trans (h.sm k hk'),h.kx.trans hk,fun k hk'=>⟨(h.xn k hk').1,Nat.lt_of_lt_of_le (h.xn k hk').2 hk.size⟩,h.wn⟩
theorem D24.bk (h:D24 J W wr n₀ Xc X X' pr) {g:Nat} {t:TypeId} {cs:Array Value} (hb:Bk W g t cs) (hx:X g):Bk wr g t cs:=(h.sm g hx).trans hb
theorem D24.own (h:D24 J W wr n₀ Xc X X' pr) {B e sz n:Nat} {v:Value} {xs:List Value} (ho:W.ownsRow B e sz v n xs) (hx:∀k,v.ownBlock=some k→X k):wr.ownsRow B e sz v n xs:=by
  refine⟨ho.1,?_⟩
  rcases ho.2 with h2|⟨g,cap,cur,he,hg,hh,r⟩
  ·exact .inl h2
  ·exact .inr ⟨g,cap,cur,he,hg,(h.sm g (hx g (by rw[he];rfl))).trans hh,r⟩
end
theorem own_same {W W':World} {B e sz n:Nat} {v:Value} {xs:List Value} (ho:W.ownsRow B e sz v n xs) (hs:∀k,v.ownBlock=some k→W'.heap[k]? = W.heap[k]?):W'.ownsRow B e sz v n xs:=by
  refine⟨ho.1,?_⟩
  rcases ho.2 with h2|⟨g,cap,cur,he,hg,hh,r⟩
  ·exact .inl h2
  ·exact .inr ⟨g,cap,cur,he,hg,(hs g (by rw[he];rfl)).trans hh,r⟩
theorem D24.write {α:Type} {J:(Nat→Prop)→List α→World→Prop} {W W' wr:World} {n₀:Nat} {Xc X':Nat→Prop} {pr:List α} (hF:Fits J) (h:D24 J W wr n₀ Xc (fun _=>False) X' pr) (hx:XG X' wr W'):D24 J W W' n₀ Xc (fun _=>False) (xNew X' wr W') pr:=by
  have hw:=Nat.le_trans h.wn h.kx.size
  exact⟨hF _ _ _ _ h.j hx,fun _ hk=>hk.elim,fun _ hk=>hk.elim,h.kx.trans ⟨hx.size,fun k hk _=>hx.block k (by omega) (fun hX=>by have:=(h.xn k hX).1;omega)⟩,fun k hk=>by
    rcases hk with hk|hk
    ·have:=h.xn k hk;have:=hx.size;omega
    ·omega,h.wn⟩
end Go.Proofs.YtgdifhhioahakaaGreatDoor
