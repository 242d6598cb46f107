/- Package token: each, as a sequence: the tokens of a text, each with the lexing behind it. -/
import Derived.Test.YtfagdpfgifgnoaaGreatDoorSp9
import Derived.Test.YtfagdpfgifgnoaaGreatDoorRfy
import Derived.Stop.RegionWithIn
set_option linter.unusedVariables false
set_option linter.unusedSimpArgs false
set_option maxRecDepth 100000
set_option maxHeartbeats 8000000
namespace Go.Proofs.YtfagdpfgifgnoaaGreatDoor
section
open Go.RowKit
attribute [local go_sem] Oper.semAt_some
def uG (l:List UInt8):Nat→Nat→Lx→List (Tk×Lx)
  | 0,_,_=>[]
  | m+1,x,X=>if x<l.length then aC l x X::uG l m (aC l x X).1.to (aC l x X).2 else []
def Fe (l:List UInt8) (x:Nat) (X:Lx):List (Tk×Lx):=uG l (l.length+1-x) x X
theorem uv (l:List UInt8) (x:Nat) (X:Lx):(aC l x X).2.pd.length≤X.pd.length+1:=by
  unfold aC;split
  ·rename_i d r hb hp;unfold i7;split
   ·rw[hp];simp;omega
   ·show X.pd.length≤_;omega
  ·show (dx _ _ X).pd.length≤_;unfold dx
   repeat' split
   all_goals simp
structure TV where
  t:Tk
  X:Lx
  v:Value
def Gg (xs:List TV):List (Tk×Lx):=xs.map fun x=>(x.t,x.X)
def GE (l:List UInt8) (pre:List TV):Prop:=Gg pre<+:Fe l 0 iV
abbrev TI:List TypeId:=[94,88]
theorem Rt.kc {T:List TypeId} {w w':World} {e:TypeId} {sz n:Nat} {v:Value} {xs:List Value} (h:Rt w e sz v n xs) (hk:KC T w w') (he:e∉T):Rt w' e sz v n xs:=by
  obtain⟨h1,A,c,h2,h3,h4,h5,h6⟩:=h;refine⟨h1,A,c,h2,h3,h4,h5,fun hn=>?_⟩;obtain⟨g,o,cur,fr,ha,hg,hc⟩:=h6 hn;have hg':=hk.same g cur e fr hg he;refine⟨g,o,cur,fr,ha,hg',fun j u hj=>?_⟩;rw[cell_of_row w' g _ cur e fr hg',←cell_of_row w g _ cur e fr hg];exact hc j u hj
section
def F9 (t:Tk):List Value:=[.int .i64 (t.kd:Int),.int .i64 (t.fr:Int),.int .i64 (t.to:Int),.bool t.op]
def fU (ts:List Tk):List Value:=ts.flatMap F9
theorem wM (a b:List Tk):fU (a++b)=fU a++fU b:=by simp[fU]
theorem DN (x:Tk):∀u∈fU [x],u.oneCell'=true:=by
  intro u hu;simp[fU,F9] at hu;rcases hu with rfl|rfl|rfl|rfl<;>rfl
theorem Tryz.infoToken:(Tryz.prog.info? 94).map (fun i=>(i.zero,i.size,i.bytes))=some (some (.agg #[.int .i64 0,.int .i64 0,.int .i64 0,.bool false]),4,32):=by kernel_rfl
theorem oK (l:List UInt8):∀(m x:Nat) (X:Lx),(uG l m x X).length≤m
  | 0,x,X=>Nat.le_refl _
  | m+1,x,X=>by
    unfold uG;split
    ·have:=oK l m (aC l x X).1.to (aC l x X).2;simp;omega
    ·simp
theorem GE.len {l:List UInt8} {pre:List TV} (h:GE l pre):pre.length≤l.length+1:=by
  have h1:=h.length_le;have h2:=oK l (l.length+1) 0 iV;have h3:(Gg pre).length=pre.length:=by simp[Gg]
  rw[h3] at h1;exact Nat.le_trans h1 h2
structure Lb (bx:Nat) (Y:Lx) (X:Nat→Prop) (W:World):Prop where
  bk:∃v,Bk W bx 88 #[.int .i64 Y.aw,v,.bool Y.bd]∧Rt W 134 2 v Y.pd.length (bK Y.pd)
  nx:¬X bx
theorem Rt.grownX {W W':World} {e:TypeId} {sz n:Nat} {v:Value} {xs:List Value} (h:Rt W e sz v n xs) {row:Option Nat} (hg:W.grownBy W' row) (hr:∀k,row=some k→∃o,W.heap[k]? = some o∧o.isCells=false):Rt W' e sz v n xs:=by
  obtain⟨h1,A,c,h2,h3,h4,h5,h6⟩:=h;refine⟨h1,A,c,h2,h3,h4,h5,fun hn=>?_⟩;obtain⟨g,o,cur,fr,ha,hh,hc⟩:=h6 hn;have hg':W'.heap[g]? = some (.cells cur e fr):=(hg.block g (Array.getElem?_eq_some_iff.1 hh).1 (fun he=>by
    obtain⟨o,ho,hc⟩:=hr g he.symm;rw[hh] at ho
    cases ho
    cases hc)).trans hh
  refine⟨g,o,cur,fr,ha,hg',fun j u hj=>?_⟩;rw[cell_of_row W' g _ cur e fr hg',←cell_of_row W g _ cur e fr hh];exact hc j u hj
theorem Lb.grown {bx:Nat} {Y:Lx} {X:Nat→Prop} {W W':World} (h:Lb bx Y X W) {row:Option Nat} (hg:W.grownBy W' row) (hr:∀k,row=some k→∃o,W.heap[k]? = some o∧o.isCells=false):Lb bx Y X W':=by
  obtain⟨⟨v,h1,h2⟩,h3⟩:=h;refine⟨⟨v,h1.grown hg (fun e=>?_),h2.grownX hg hr⟩,h3⟩;obtain⟨o,ho,hc⟩:=hr _ e.symm;rw[show W.heap[bx]? = _ from h1] at ho
  cases ho
  cases hc
theorem Lb.fits {bx:Nat} {X:Nat→Prop} {Y:Lx} {A B:World} (h:Lb bx Y X A) (hx:XG X A B) (hk:KC TI A B):Lb bx Y (eH X A B) B:=by
  obtain⟨⟨v,h1,h2⟩,h3⟩:=h;refine⟨⟨v,(hx.block _ h1.lt h3).trans h1,h2.kc hk (by decide)⟩,?_⟩;rintro (h|h)
  ·exact h3 h
  ·have:=h1.lt;omega
theorem Lb.next {bx:Nat} {Y:Lx} {X:Nat→Prop} {W W':World} (h:Lb bx Y X W) (hb:Below W.heap.size W W'):Lb bx Y X W':=by
  obtain⟨⟨v,h1,h2⟩,h3⟩:=h;exact⟨⟨v,h1.below hb h1.lt,h2.next hb⟩,h3⟩
theorem Bk.overrow {w w':World} {base e size n g:Nat} {t:TypeId} {cs:Array Value} {v:Value} {xs:List Value} (h:Bk w g t cs) (ho:w.ownsRow base e size v n xs) (hg:w.grownBy w' v.ownBlock) (hne:e≠t):Bk w' g t cs:=
  h.grown hg (fun he=>aL ho h hne he.symm)
attribute [-go_sem] Builtin.append_
end
end
section
open Go.RowKit
theorem bR {W:World} {b c i j:Nat} {u v:Value} (h:W.cell? ⟨c,j,none⟩=some u) (hne:¬b=c):(W.setCell ⟨b,i,none⟩ v).cell? ⟨c,j,none⟩=some u:=(World.cell?_setCell_far W ⟨b,i,none⟩ ⟨c,j,none⟩ v hne).trans h
theorem eE {W:World} {a:Addr} {u:Value} {o:Obj} (h:W.cell? a=some u):(W.alloc o).cell? a=some u:=(World.cell?_alloc_some W a o (by rw[h];rfl)).trans h
theorem jo {W:World} {a:Addr} {u:Value} (h:W.cell? a=some u):W.drew.cell? a=some u:=h
def GT (wr w5 W:World) (s t:Value) (t1 t2:TypeId) (cs ds:Array Value):Prop:=
  ∃b1 b2:Nat,s=.pointer (some ⟨b1,0,none⟩)∧t=.pointer (some ⟨b2,0,none⟩)∧Bk W b1 t1 cs∧Bk W b2 t2 ds∧b1≠b2∧wr.heap.size≤b1∧wr.heap.size≤b2∧Below wr.heap.size wr W ∧
   ∀(e:TypeId) (sz n:Nat) (v:Value) (xs:List Value),e≠t1→e≠t2→Rt w5 e sz v n xs→Rt W e sz v n xs
section
variable {wr w5:World} {t1 t2:TypeId} {a0 a1 a2 a3 d0 d1 d2 u0 u1 u2 u3 z0 z1 z2:Value}
end
end
end Go.Proofs.YtfagdpfgifgnoaaGreatDoor
