/- Maps from ints to ints: as a function, with a bound on how often they were written. -/
import Derived.Test.YtmclohkaiemnaaaGreatDoorPl6
import Derived.Test.YtmclohkaiemnaaaGreatDoorMem
import Derived.Maps.Own
import Derived.Maps.OwnOps
import Derived.Maps.Views
import Derived.IntWalk
set_option linter.unusedVariables false
set_option linter.unusedSimpArgs false
set_option maxRecDepth 100000
set_option maxHeartbeats 8000000
namespace Go.Proofs.YtmclohkaiemnaaaGreatDoor
open Go.RowKit
variable {x:Int} {f:Int→Int} {b n:Nat} {w w':World}
def IM (w:World) (b n:Nat) (f:Int→Int):Prop:=∃D:DataW Unit,w.ownsMap Tryz.prog 3 (plainElem Tryz.prog 3) b n D∧Maps.IsMap D∧∀x:Int,D.atKey (.int .i64 x) (.lit (.int .i64 0))=.lit (.int .i64 (f x))
def ux (f:Int→Int) (k v:Int):Int→Int:=fun x=>if k=x then v else f x
theorem IM.made (w:World):IM (w.alloc (.map #[] 0)) w.heap.size 0 (fun _=>0):=
  ⟨.map [],World.ownsMap_made w _ _ _,⟨[],rfl⟩,fun x=>rfl⟩
theorem IM.put (h:IM w b n f) (k v:Int) (hn:n≤100000) (h0 : -100000≤k) (h1:k≤100000) (h2 : -100000≤v) (h3:v≤100000) :
    ∃w',(Instr.mapUpdate 44 (.map (some b)) (.int .i64 k) (.int .i64 v)).run Tryz.prog w=.ok () w'∧IM w' b (n+1) (ux f k v)∧w.grownBy w' (some b):=by
  obtain⟨D,hD,hm,hat⟩:=h;obtain⟨w',hrun,hown,hg⟩:=hD.update (Maps.int_keyed Tryz.underlying3) Tryz.underlying44 (by unfold maxLen;omega) (Maps.keyOf_int_mk Tryz.underlying3 (WalkArith.wf_i64 (n:=k) (by omega))) (plainElem_int Tryz.underlying3 (WalkArith.wf_i64 (n:=v) (by omega)));refine⟨w',hrun,⟨_,hown,hm.put _ _,fun x=>?_⟩,hg⟩;unfold ux;by_cases hx:k=x
  ·subst hx;rw[aB rfl,Maps.atKey_put_same hm (by trivial)]
  ·rw[aC hx,Maps.atKey_put_other (by intro h;injection h with _ h;exact hx h.symm)];exact hat x
theorem IM.look (h:IM w b n f) (h0 : -100000≤x) (h1:x≤100000) :
    (Instr.lookup 44 (.map (some b)) (.int .i64 x) false).run Tryz.prog w=.ok (.int .i64 (f x)) w:=by
  obtain⟨D,hD,hm,hat⟩:=h;obtain⟨c,hrun,hc,_⟩:=hD.lookup_int (Maps.int_keyed Tryz.underlying3) Tryz.underlying44 Tryz.underlying3 (by kernel_rfl) (Maps.keyOf_int_mk Tryz.underlying3 (WalkArith.wf_i64 (n:=x) (by omega)));rw[hat x] at hc;injection hc with hc
  injection hc with _ hc
  rw[hrun,hc]
theorem IM.kept (h:IM w b n f) (hb:w'.heap[b]? = w.heap[b]?):IM w' b n f:=by
  obtain⟨D,⟨es,clock,h1,h2⟩,hm,hat⟩:=h;exact⟨D,⟨es,clock,hb.trans h1,h2⟩,hm,hat⟩
theorem IM.lt (h:IM w b n f):b<w.heap.size:=by
  obtain⟨D,hD,_⟩:=h;exact hD.lt
theorem IM.alloc (h:IM w b n f) (o:Obj):IM (w.alloc o) b n f:=h.kept (dK w o b h.lt)
theorem IM.drew (h:IM w b n f):IM w.drew b n f:=h
theorem IM.drewN (h:IM w b n f) (m:Nat):IM (w.drewN m) b n f:=h
theorem IM.below (h:IM w b n f) (hb:Below w.heap.size w w'):IM w' b n f:=h.kept (hb.block b h.lt)
end Go.Proofs.YtmclohkaiemnaaaGreatDoor
