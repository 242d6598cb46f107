/- Package token: each, as a sequence: the tokens of a text, each with the lexing behind it. -/
import Derived.Test.YtmclohkaiemnaaaGreatDoorSp9
import Derived.Test.YtmclohkaiemnaaaGreatDoorRfy
import Derived.Stop.RegionWithIn
set_option linter.unusedVariables false
set_option linter.unusedSimpArgs false
set_option maxRecDepth 100000
set_option maxHeartbeats 8000000
namespace Go.Proofs.YtmclohkaiemnaaaGreatDoor
section
open Go.RowKit
attribute [local go_sem] Oper.semAt_some
def BK (l:List UInt8):Nat→Nat→Lx→List (Tk×Lx)
  | 0,_,_=>[]
  | m+1,x,X=>if x<l.length then eU l x X::BK l m (eU l x X).1.to (eU l x X).2 else []
def Nw (l:List UInt8) (x:Nat) (X:Lx):List (Tk×Lx):=BK l (l.length+1-x) x X
theorem Bq (l:List UInt8) (x:Nat) (X:Lx):(eU l x X).2.pd.length≤X.pd.length+1:=by
  unfold eU;split
  ·rename_i d r hb hp;unfold nT;split
   ·rw[hp];simp;omega
   ·show X.pd.length≤_;omega
  ·show (iQ _ _ X).pd.length≤_;unfold iQ
   repeat' split
   all_goals simp
structure TV where
  t:Tk
  X:Lx
  v:Value
def Ot (xs:List TV):List (Tk×Lx):=xs.map fun x=>(x.t,x.X)
def OG (l:List UInt8) (pre:List TV):Prop:=Ot pre<+:Nw l 0 mZ
abbrev TL:List TypeId:=[92,96,85]
theorem Rt.kc {T:List TypeId} {w w':World} {e:TypeId} {sz n:Nat} {v:Value} {xs:List Value} (h:Rt w e sz v n xs) (hk:KC T w w') (he:e∉T):Rt w' e sz v n xs:=by
  obtain⟨h1,A,c,h2,h3,h4,h5,h6⟩:=h;refine⟨h1,A,c,h2,h3,h4,h5,fun hn=>?_⟩;obtain⟨g,o,cur,fr,ha,hg,hc⟩:=h6 hn;have hg':=hk.same g cur e fr hg he;refine⟨g,o,cur,fr,ha,hg',fun j u hj=>?_⟩;rw[cell_of_row w' g _ cur e fr hg',←cell_of_row w g _ cur e fr hg];exact hc j u hj
section
def OD (t:Tk):List Value:=[.int .i64 (t.kd:Int),.int .i64 (t.fr:Int),.int .i64 (t.to:Int),.bool t.op]
def nh (ts:List Tk):List Value:=ts.flatMap OD
theorem DX (a b:List Tk):nh (a++b)=nh a++nh b:=by simp[nh]
theorem LY (x:Tk):∀u∈nh [x],u.oneCell'=true:=by
  intro u hu;simp[nh,OD] at hu;rcases hu with rfl|rfl|rfl|rfl<;>rfl
theorem Tryz.infoToken:(Tryz.prog.info? 92).map (fun i=>(i.zero,i.size,i.bytes))=some (some (.agg #[.int .i64 0,.int .i64 0,.int .i64 0,.bool false]),4,32):=by kernel_rfl
theorem uV (l:List UInt8):∀(m x:Nat) (X:Lx),(BK l m x X).length≤m
  | 0,x,X=>au _
  | m+1,x,X=>by
    unfold BK;split
    ·have:=uV l m (eU l x X).1.to (eU l x X).2;simp;omega
    ·simp
theorem OG.len {l:List UInt8} {pre:List TV} (h:OG l pre):pre.length≤l.length+1:=by
  have h1:=h.length_le;have h2:=uV l (l.length+1) 0 mZ;have h3:(Ot pre).length=pre.length:=by simp[Ot]
  rw[h3] at h1;exact aA h1 h2
structure Lb (bx:Nat) (Y:Lx) (X:Nat→Prop) (W:World):Prop where
  bk:∃v,Bk W bx 85 #[.int .i64 Y.aw,v,.bool Y.bd]∧Rt W 120 2 v Y.pd.length (fQ Y.pd)
  nx:¬X bx
theorem Rt.grownX {W W':World} {e:TypeId} {sz n:Nat} {v:Value} {xs:List Value} (h:Rt W e sz v n xs) {row:Option Nat} (hg:W.grownBy W' row) (hr:∀k,row=some k→∃o,W.heap[k]? = some o∧o.isCells=false):Rt W' e sz v n xs:=by
  obtain⟨h1,A,c,h2,h3,h4,h5,h6⟩:=h;refine⟨h1,A,c,h2,h3,h4,h5,fun hn=>?_⟩;obtain⟨g,o,cur,fr,ha,hh,hc⟩:=h6 hn;have hg':W'.heap[g]? = some (.cells cur e fr):=(hg.block g (aJ.1 hh).1 (fun he=>by
    obtain⟨o,ho,hc⟩:=hr g he.symm;rw[hh] at ho
    cases ho
    cases hc)).trans hh
  refine⟨g,o,cur,fr,ha,hg',fun j u hj=>?_⟩;rw[cell_of_row W' g _ cur e fr hg',←cell_of_row W g _ cur e fr hh];exact hc j u hj
theorem Lb.grown {bx:Nat} {Y:Lx} {X:Nat→Prop} {W W':World} (h:Lb bx Y X W) {row:Option Nat} (hg:W.grownBy W' row) (hr:∀k,row=some k→∃o,W.heap[k]? = some o∧o.isCells=false):Lb bx Y X W':=by
  obtain⟨⟨v,h1,h2⟩,h3⟩:=h;refine⟨⟨v,h1.grown hg (fun e=>?_),h2.grownX hg hr⟩,h3⟩;obtain⟨o,ho,hc⟩:=hr _ e.symm;rw[show W.heap[bx]? = _ from h1] at ho
  cases ho
  cases hc
theorem Lb.next {bx:Nat} {Y:Lx} {X:Nat→Prop} {W W':World} (h:Lb bx Y X W) (hb:Below W.heap.size W W'):Lb bx Y X W':=by
  obtain⟨⟨v,h1,h2⟩,h3⟩:=h;exact⟨⟨v,h1.below hb h1.lt,h2.next hb⟩,h3⟩
theorem Bk.overrow {w w':World} {base e size n g:Nat} {t:TypeId} {cs:Array Value} {v:Value} {xs:List Value} (h:Bk w g t cs) (ho:w.ownsRow base e size v n xs) (hg:w.grownBy w' v.ownBlock) (hne:e≠t):Bk w' g t cs:=
  h.grown hg (fun he=>eP ho h hne he.symm)
attribute [-go_sem] Builtin.append_
end
end
section
open Go.RowKit
theorem gw {W:World} {b c i j:Nat} {u v:Value} (h:W.cell? ⟨c,j,none⟩=some u) (hne:¬b=c):(W.setCell ⟨b,i,none⟩ v).cell? ⟨c,j,none⟩=some u:=(World.cell?_setCell_far W ⟨b,i,none⟩ ⟨c,j,none⟩ v hne).trans h
theorem iy {W:World} {a:Addr} {u:Value} {o:Obj} (h:W.cell? a=some u):(W.alloc o).cell? a=some u:=(World.cell?_alloc_some W a o (by rw[h];rfl)).trans h
theorem ms {W:World} {a:Addr} {u:Value} (h:W.cell? a=some u):W.drew.cell? a=some u:=h
section
variable {wr w5:World} {t1 t2:TypeId} {a0 a1 a2 a3 d0 d1 d2 u0 u1 u2 u3 z0 z1 z2:Value}
end
end
end Go.Proofs.YtmclohkaiemnaaaGreatDoor
