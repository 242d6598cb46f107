/- Package token: each, as a sequence: the tokens of a text, each with the lexing behind it. -/
import Derived.Test.YtnclfgkpcpcapaaGreatDoorSp9
import Derived.Test.YtnclfgkpcpcapaaGreatDoorRfy
import Derived.Stop.RegionWithIn
namespace Go.Proofs.YtnclfgkpcpcapaaGreatDoor
open Go.RowKit
set_option linter.unusedVariables false
set_option linter.unusedSimpArgs false
set_option maxRecDepth 100000
attribute [local go_sem] Oper.semAt_some
def pairF (l:List UInt8):Nat→Nat→Lx→List (Tk×Lx)
  | 0,_,_=>[]
  | m+1,x,X=>if x<l.length then stepL l x X::pairF l m (stepL l x X).1.to (stepL l x X).2 else []
def pairA (l:List UInt8) (x:Nat) (X:Lx):List (Tk×Lx):=pairF l (l.length+1-x) x X
theorem step_pd (l:List UInt8) (x:Nat) (X:Lx):(stepL l x X).2.pd.length≤X.pd.length+1:=by
  unfold stepL
  split
  ·rename_i d r hb hp
   unfold docL
   split
   ·rw[hp];simp;omega
   ·show X.pd.length≤_;omega
  ·show (behindL _ _ X).pd.length≤_
   unfold behindL
   repeat' split
   all_goals simp
structure TV where
  t:Tk
  X:Lx
  v:Value
def prs (xs:List TV):List (Tk×Lx):=xs.map fun x=>(x.t,x.X)
def St9 (l:List UInt8) (pre:List TV):Prop:=prs pre<+:pairA l 0 lx0
abbrev TI:List TypeId:=[40,45]
theorem Rt.kc {T:List TypeId} {w w':World} {e:TypeId} {sz n:Nat} {v:Value} {xs:List Value} (h:Rt w e sz v n xs) (hk:KC T w w') (he:e∉T):Rt w' e sz v n xs:=by
  obtain⟨h1,A,c,h2,h3,h4,h5,h6⟩:=h
  refine⟨h1,A,c,h2,h3,h4,h5,fun hn=>?_⟩
  obtain⟨g,o,cur,fr,ha,hg,hc⟩:=h6 hn
  have hg':=hk.same g cur e fr hg he
  refine⟨g,o,cur,fr,ha,hg',fun j u hj=>?_⟩
  rw[cell_of_row w' g _ cur e fr hg',←cell_of_row w g _ cur e fr hg]
  exact hc j u hj
end Go.Proofs.YtnclfgkpcpcapaaGreatDoor
namespace Go.Proofs.YtnclfgkpcpcapaaGreatDoor
open Go.RowKit
set_option linter.unusedVariables false
set_option linter.unusedSimpArgs false
set_option maxRecDepth 100000
attribute [local go_sem] Oper.semAt_some
def tkc (t:Tk):List Value:=[.int .i64 (t.kd:Int),.int .i64 (t.fr:Int),.int .i64 (t.to:Int),.bool t.op]
def tkcs (ts:List Tk):List Value:=ts.flatMap tkc
theorem tkcs_app (a b:List Tk):tkcs (a++b)=tkcs a++tkcs b:=by simp[tkcs]
theorem one_tk (x:Tk):∀u∈tkcs [x],u.oneCell'=true:=by
  intro u hu
  simp[tkcs,tkc] at hu
  rcases hu with rfl|rfl|rfl|rfl<;>rfl
theorem Tryz.infoToken:(Tryz.prog.info? 40).map (fun i=>(i.zero,i.size,i.bytes))=some (some (.agg #[.int .i64 0,.int .i64 0,.int .i64 0,.bool false]),4,32):=by kernel_rfl
theorem pairF_len (l:List UInt8):∀(m x:Nat) (X:Lx),(pairF l m x X).length≤m
  | 0,x,X=>Nat.le_refl _
  | m+1,x,X=>by
    unfold pairF
    split
    ·have:=pairF_len l m (stepL l x X).1.to (stepL l x X).2;simp;omega
    ·simp
theorem St9.len {l:List UInt8} {pre:List TV} (h:St9 l pre):pre.length≤l.length+1:=by
  have h1:=h.length_le
  have h2:=pairF_len l (l.length+1) 0 lx0
  have h3:(prs pre).length=pre.length:=by simp[prs]
  rw[h3] at h1
  exact Nat.le_trans h1 h2
structure Lb (bx:Nat) (Y:Lx) (X:Nat→Prop) (W:World):Prop where
  bk:∃v,Bk W bx 45 #[.int .i64 Y.aw,v,.bool Y.bd]∧Rt W 73 2 v Y.pd.length (dcls Y.pd)
  nx:¬X bx
theorem Rt.grownX {W W':World} {e:TypeId} {sz n:Nat} {v:Value} {xs:List Value} (h:Rt W e sz v n xs) {row:Option Nat} (hg:W.grownBy W' row) (hr:∀k,row=some k→∃o,W.heap[k]? = some o∧o.isCells=false):Rt W' e sz v n xs:=by
  obtain⟨h1,A,c,h2,h3,h4,h5,h6⟩:=h
  refine⟨h1,A,c,h2,h3,h4,h5,fun hn=>?_⟩
  obtain⟨g,o,cur,fr,ha,hh,hc⟩:=h6 hn
  have hg':W'.heap[g]? = some (.cells cur e fr):=(hg.block g (Array.getElem?_eq_some_iff.1 hh).1 (fun he=>by
    obtain⟨o,ho,hc⟩:=hr g he.symm
    rw[hh] at ho
    cases ho
    cases hc)).trans hh
  refine⟨g,o,cur,fr,ha,hg',fun j u hj=>?_⟩
  rw[cell_of_row W' g _ cur e fr hg',←cell_of_row W g _ cur e fr hh]
  exact hc j u hj
theorem Lb.grown {bx:Nat} {Y:Lx} {X:Nat→Prop} {W W':World} (h:Lb bx Y X W) {row:Option Nat} (hg:W.grownBy W' row) (hr:∀k,row=some k→∃o,W.heap[k]? = some o∧o.isCells=false):Lb bx Y X W':=by
  obtain⟨⟨v,h1,h2⟩,h3⟩:=h
  refine⟨⟨v,h1.grown hg (fun e=>?_),h2.grownX hg hr⟩,h3⟩
  obtain⟨o,ho,hc⟩:=hr _ e.symm
  rw[show W.heap[bx]? = _ from h1] at ho
  cases ho
  cases hc
theorem Lb.fits {bx:Nat} {X:Nat→Prop} {Y:Lx} {A B:World} (h:Lb bx Y X A) (hx:XG X A B) (hk:KC TI A B):Lb bx Y (xNew X A B) B:=by
  obtain⟨⟨v,h1,h2⟩,h3⟩:=h
  refine⟨⟨v,(hx.block _ h1.lt h3).trans h1,h2.kc hk (by decide)⟩,?_⟩
  rintro (h|h)
  ·exact h3 h
  ·have:=h1.lt;omega
theorem Lb.next {bx:Nat} {Y:Lx} {X:Nat→Prop} {W W':World} (h:Lb bx Y X W) (hb:Below W.heap.size W W'):Lb bx Y X W':=by
  obtain⟨⟨v,h1,h2⟩,h3⟩:=h
  exact⟨⟨v,h1.below hb h1.lt,h2.next hb⟩,h3⟩
theorem Bk.overrow {w w':World} {base e size n g:Nat} {t:TypeId} {cs:Array Value} {v:Value} {xs:List Value} (h:Bk w g t cs) (ho:w.ownsRow base e size v n xs) (hg:w.grownBy w' v.ownBlock) (hne:e≠t):Bk w' g t cs:=
  h.grown hg (fun he=>own_ne ho h hne he.symm)
attribute [-go_sem] Builtin.append_
end Go.Proofs.YtnclfgkpcpcapaaGreatDoor
namespace Go.Proofs.YtnclfgkpcpcapaaGreatDoor
open Go.RowKit
set_option linter.unusedVariables false
set_option linter.unusedSimpArgs false
set_option maxRecDepth 100000
theorem keep_far {W:World} {b c i j:Nat} {u v:Value} (h:W.cell? ⟨c,j,none⟩=some u) (hne:¬b=c):(W.setCell ⟨b,i,none⟩ v).cell? ⟨c,j,none⟩=some u:=(World.cell?_setCell_far W ⟨b,i,none⟩ ⟨c,j,none⟩ v hne).trans h
theorem keep_new {W:World} {a:Addr} {u:Value} {o:Obj} (h:W.cell? a=some u):(W.alloc o).cell? a=some u:=(World.cell?_alloc_some W a o (by rw[h];rfl)).trans h
theorem keep_drew {W:World} {a:Addr} {u:Value} (h:W.cell? a=some u):W.drew.cell? a=some u:=h
def Two (wr w5 W:World) (s t:Value) (t1 t2:TypeId) (cs ds:Array Value):Prop:=
  ∃b1 b2:Nat,s=.pointer (some ⟨b1,0,none⟩)∧t=.pointer (some ⟨b2,0,none⟩)∧Bk W b1 t1 cs∧Bk W b2 t2 ds∧b1≠b2∧wr.heap.size≤b1∧wr.heap.size≤b2∧Below wr.heap.size wr W ∧
   ∀(e:TypeId) (sz n:Nat) (v:Value) (xs:List Value),e≠t1→e≠t2→Rt w5 e sz v n xs→Rt W e sz v n xs
section
variable {wr w5:World} {t1 t2:TypeId} {a0 a1 a2 a3 d0 d1 d2 u0 u1 u2 u3 z0 z1 z2:Value}
theorem two1 (hb:Below wr.heap.size wr w5):Two wr w5 ((w5.alloc (.cells #[a0,a1,a2,a3] t1)).alloc (.cells #[d0,d1,d2] t2)) (.pointer (some ⟨w5.heap.size,0,none⟩)) (.pointer (some ⟨w5.heap.size+1,0,none⟩)) t1 t2 #[a0,a1,a2,a3] #[d0,d1,d2]:=
  ⟨_,_,rfl,rfl,(Bk.new w5 _ _).alloc _,bk_second w5 _ _ _ _,by omega,hb.size,by have:=hb.size;omega,(hb.alloc hb.size _).alloc (by have:=hb.size;simp;omega) _,
    fun e sz n v xs _ _ h=>(h.next (Below.alloc (Below.refl _ _) (Nat.le_refl _) _)).next (Below.alloc (Below.refl _ _) (Nat.le_refl _) _)⟩
theorem two2 (hb:Below wr.heap.size wr w5):Two wr w5 ((w5.alloc (.cells #[d0,d1,d2] t2)).alloc (.cells #[a0,a1,a2,a3] t1)) (.pointer (some ⟨w5.heap.size+1,0,none⟩)) (.pointer (some ⟨w5.heap.size,0,none⟩)) t1 t2 #[a0,a1,a2,a3] #[d0,d1,d2]:=
  ⟨_,_,rfl,rfl,bk_second w5 _ _ _ _,(Bk.new w5 _ _).alloc _,by omega,by have:=hb.size;omega,hb.size,(hb.alloc hb.size _).alloc (by have:=hb.size;simp;omega) _,
    fun e sz n v xs _ _ h=>(h.next (Below.alloc (Below.refl _ _) (Nat.le_refl _) _)).next (Below.alloc (Below.refl _ _) (Nat.le_refl _) _)⟩
theorem set4_rt {b:Nat} (k:Bk w5 b t1 #[u0,u1,u2,u3]) (hb:Below wr.heap.size wr w5) (hw:wr.heap.size≤b) :
    ∀W,W=((((w5.setCell ⟨b,0,none⟩ a0).setCell ⟨b,1,none⟩ a1).setCell ⟨b,2,none⟩ a2).setCell ⟨b,3,none⟩ a3)→Bk W b t1 #[a0,a1,a2,a3]∧Below wr.heap.size wr W∧W.heap.size=w5.heap.size∧(∀g t cs,Bk w5 g t cs→g≠b→Bk W g t cs)∧∀(e:TypeId) (sz n:Nat) (v:Value) (xs:List Value),e≠t1→Rt w5 e sz v n xs→Rt W e sz v n xs:=by
  rintro W rfl
  refine⟨(((k.set 0 a0).set 1 a1).set 2 a2).set 3 a3,(((hb.setCell (p:=⟨b,0,none⟩) hw _).setCell (p:=⟨b,1,none⟩) hw _).setCell (p:=⟨b,2,none⟩) hw _).setCell (p:=⟨b,3,none⟩) hw _,by simp[World.setCell],fun g t cs h hn=>(((h.far (p:=⟨b,0,none⟩) hn _).far (p:=⟨b,1,none⟩) hn _).far (p:=⟨b,2,none⟩) hn _).far (p:=⟨b,3,none⟩) hn _,fun e sz n v xs he h=>?_⟩
  exact h.keep (grown_set (grown_set (grown_set (grown_set (grown_refl w5 (some b)) 0 a0) 1 a1) 2 a2) 3 a3) (k.row he)
theorem set3_rt {b:Nat} (k:Bk w5 b t2 #[z0,z1,z2]) (hb:Below wr.heap.size wr w5) (hw:wr.heap.size≤b) :
    ∀W,W=(((w5.setCell ⟨b,0,none⟩ d0).setCell ⟨b,1,none⟩ d1).setCell ⟨b,2,none⟩ d2)→Bk W b t2 #[d0,d1,d2]∧Below wr.heap.size wr W∧W.heap.size=w5.heap.size∧(∀g t cs,Bk w5 g t cs→g≠b→Bk W g t cs)∧∀(e:TypeId) (sz n:Nat) (v:Value) (xs:List Value),e≠t2→Rt w5 e sz v n xs→Rt W e sz v n xs:=by
  rintro W rfl
  refine⟨((k.set 0 d0).set 1 d1).set 2 d2,((hb.setCell (p:=⟨b,0,none⟩) hw _).setCell (p:=⟨b,1,none⟩) hw _).setCell (p:=⟨b,2,none⟩) hw _,by simp[World.setCell],fun g t cs h hn=>((h.far (p:=⟨b,0,none⟩) hn _).far (p:=⟨b,1,none⟩) hn _).far (p:=⟨b,2,none⟩) hn _,fun e sz n v xs he h=>?_⟩
  exact h.keep (grown_set (grown_set (grown_set (grown_refl w5 (some b)) 0 d0) 1 d1) 2 d2) (k.row he)
theorem two3 {b:Nat} (k:Bk w5 b t1 #[u0,u1,u2,u3]) (hb:Below wr.heap.size wr w5) (hw:wr.heap.size≤b):Two wr w5 (((((w5.setCell ⟨b,0,none⟩ a0).setCell ⟨b,1,none⟩ a1).setCell ⟨b,2,none⟩ a2).setCell ⟨b,3,none⟩ a3).alloc (.cells #[d0,d1,d2] t2)) (.pointer (some ⟨b,0,none⟩)) (.pointer (some ⟨w5.heap.size,0,none⟩)) t1 t2 #[a0,a1,a2,a3] #[d0,d1,d2]:=by
  obtain⟨h1,h2,h3,_,h4⟩:=set4_rt (a0:=a0) (a1:=a1) (a2:=a2) (a3:=a3) k hb hw _ rfl
  generalize World.setCell _ _ _=W at h1 h2 h3 h4 ⊢
  have hl:=k.lt
  refine⟨_,W.heap.size,rfl,by rw[h3],h1.alloc _,Bk.new W _ _,by omega,hw,by omega,h2.alloc h2.size _,fun e sz n v xs e1 _ h=>(h4 e sz n v xs e1 h).next (Below.alloc (Below.refl _ _) (Nat.le_refl _) _)⟩
theorem two5 {b:Nat} (k:Bk w5 b t2 #[z0,z1,z2]) (hb:Below wr.heap.size wr w5) (hw:wr.heap.size≤b):Two wr w5 ((((w5.setCell ⟨b,0,none⟩ d0).setCell ⟨b,1,none⟩ d1).setCell ⟨b,2,none⟩ d2).alloc (.cells #[a0,a1,a2,a3] t1)) (.pointer (some ⟨w5.heap.size,0,none⟩)) (.pointer (some ⟨b,0,none⟩)) t1 t2 #[a0,a1,a2,a3] #[d0,d1,d2]:=by
  obtain⟨h1,h2,h3,_,h4⟩:=set3_rt (d0:=d0) (d1:=d1) (d2:=d2) k hb hw _ rfl
  generalize World.setCell _ _ _=W at h1 h2 h3 h4 ⊢
  have hl:=k.lt
  refine⟨W.heap.size,_,by rw[h3],rfl,Bk.new W _ _,h1.alloc _,by omega,by omega,hw,h2.alloc h2.size _,fun e sz n v xs _ e2 h=>(h4 e sz n v xs e2 h).next (Below.alloc (Below.refl _ _) (Nat.le_refl _) _)⟩
theorem two4 {b b':Nat} (k:Bk w5 b t1 #[u0,u1,u2,u3]) (k':Bk w5 b' t2 #[z0,z1,z2]) (hne:b≠b') (hb:Below wr.heap.size wr w5) (hw:wr.heap.size≤b) (hw':wr.heap.size≤b') :
    Two wr w5 (((((((w5.setCell ⟨b,0,none⟩ a0).setCell ⟨b,1,none⟩ a1).setCell ⟨b,2,none⟩ a2).setCell ⟨b,3,none⟩ a3).setCell ⟨b',0,none⟩ d0).setCell ⟨b',1,none⟩ d1).setCell ⟨b',2,none⟩ d2) (.pointer (some ⟨b,0,none⟩)) (.pointer (some ⟨b',0,none⟩)) t1 t2 #[a0,a1,a2,a3] #[d0,d1,d2]:=by
  obtain⟨h1,h2,h3,h5,h4⟩:=set4_rt (a0:=a0) (a1:=a1) (a2:=a2) (a3:=a3) k hb hw _ rfl
  have k1:=h5 _ _ _ k' hne.symm
  generalize ((((w5.setCell ⟨b,0,none⟩ a0).setCell ⟨b,1,none⟩ a1).setCell ⟨b,2,none⟩ a2).setCell ⟨b,3,none⟩ a3)=W at h1 h2 h3 h4 k1 ⊢
  obtain⟨g1,g2,g3,g5,g4⟩:=set3_rt (d0:=d0) (d1:=d1) (d2:=d2) k1 h2 hw' _ rfl
  exact⟨_,_,rfl,rfl,g5 _ _ _ h1 hne,g1,hne,hw,hw',g2,fun e sz n v xs e1 e2 h=>g4 e sz n v xs e2 (h4 e sz n v xs e1 h)⟩
end
end Go.Proofs.YtnclfgkpcpcapaaGreatDoor
