/- Chapter 10: a lexed text's tokens, lexing and text, told of the text alone; an edit's inverse. -/
import Derived.Test.YtclllfmbldeneaaGreatDoorCm10
namespace Go.Proofs.YtclllfmbldeneaaGreatDoor
open Go.RowKit
set_option linter.unusedVariables false
set_option linter.unusedSimpArgs false
set_option maxRecDepth 100000
structure UnI (w:World) (g bx:Nat) (l:List UInt8) (x:Ez) (N:Nat) (ts:List Tk) (v v3:Value) (Y:Lx) (W:World):Prop where
  doc:DocP W g l
  be:Bk W w.heap.size 23 #[.int .i64 x.a,.string ⟨x.d.toArray⟩,.string ⟨x.i.toArray⟩]
  bx:Bk W bx 48 #[.int .i64 Y.aw,v3,.bool Y.bd]
  row:W.ownsRow w.heap.size 40 4 v N (tkcs ts)
  rt:Rt W 83 2 v3 Y.pd.length (dcls Y.pd)
  hb:Below w.heap.size w W
theorem UnI.below {w:World} {g bx:Nat} {l:List UInt8} {x:Ez} {N:Nat} {ts:List Tk} {v v3:Value} {Y:Lx} {W W':World} (h:UnI w g bx l x N ts v v3 Y W) (hb:Below W.heap.size W W'):UnI w g bx l x N ts v v3 Y W':=
  ⟨h.doc.next hb,h.be.below hb h.be.lt,h.bx.below hb h.bx.lt,own_below h.row hb,h.rt.next hb,h.hb.trans (hb.mono h.hb.size)⟩
theorem UnI.apply {w:World} {g bx:Nat} {l l':List UInt8} {x:Ez} {N:Nat} {ts:List Tk} {v v3:Value} {Y:Lx} {W W':World} (h:UnI w g bx l x N ts v v3 Y W) (hgw:w.heap.size≤g) (hg:W.grownBy W' (some g)) (hD:DocP W' g l'):UnI w g bx l' x N ts v v3 Y W':=by
  obtain⟨xs,lv,pv,h1,h2,h3⟩:=h.doc
  have n1:w.heap.size≠g:=bk_ne h.be h2.bk (by decide)
  have n2:bx≠g:=bk_ne h.bx h2.bk (by decide)
  exact⟨hD,h.be.grown hg (fun e=>n1 (by injection e)),h.bx.grown hg (fun e=>n2 (by injection e)),h.row.kept hg (.inr (fun e=>own_ne h.row h2.bk (by decide) e)),
    h.rt.keep hg (fun k hk=>by injection hk with hk;subst hk;exact⟨_,_,_,h2.bk,by decide⟩),Below.grown h.hb hg h.hb.size (fun k hk=>by injection hk with hk;omega)⟩
end Go.Proofs.YtclllfmbldeneaaGreatDoor
