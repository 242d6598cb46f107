/- Arguments of the laws of chapter 13: rows of nodes. -/
import Derived.Test.YtlbfdbinaekjoaaGreatDoorQg13
namespace Go.Proofs.YtlbfdbinaekjoaaGreatDoor
open Go.RowKit Go.ChangeShapes Go.WideShapes Go.Deep
set_option linter.unusedVariables false
set_option linter.unusedSimpArgs false
set_option maxRecDepth 100000
theorem stays_argm {H:Type} {enc:TypeId×Value→H} {P:Program} {t:TypeId} (hl:laidOutB P=true) (hr:P.readableRec t=true) (hrow:t<P.types.size) {W W':World} {sp':Nat→Bool} {v:Value} {d:DataW H} {ps:List MemPlace}
    (h:DataW.Trod enc P W 0 (fun _=>true) true t v d ps) (hb:Below W.heap.size W W') (hlt:∀x∈ps,x.block<W.heap.size) (hs:∀x∈ps,sp' x.block=true):DataW.Trod enc P W' 0 sp' true t v d ps:=
  WideElems.Trod_stays hl hr hrow h (fun x hx=>hb.same (hlt x hx)) hs
theorem nz_row (r:List Value) (hl:r.length=[FK.i,FK.i,FK.i,FK.i].length) (h:Qk [.i,.i,.i,.i] r):∃x:Nz,r=nzc x:=by
  obtain⟨v0,h0,a,rfl,_⟩:=h 0 .i rfl
  obtain⟨v1,h1,b,rfl,_⟩:=h 1 .i rfl
  obtain⟨v2,h2,c,rfl,_⟩:=h 2 .i rfl
  obtain⟨v3,h3,d,rfl,_⟩:=h 3 .i rfl
  match r,hl with
  | [x,y,z,u],_=>
    simp at h0 h1 h2 h3
    subst h0 h1 h2 h3
    exact⟨⟨a,b,c,d⟩,rfl⟩
theorem nz_rows (rows:List (List Value)) (h:∀r∈rows,r.length=[FK.i,FK.i,FK.i,FK.i].length∧Qk [.i,.i,.i,.i] r):∃xs:List Nz,rows.flatten=nzcs xs∧xs.length=rows.length:=rows_data nzc nz_row rows h
end Go.Proofs.YtlbfdbinaekjoaaGreatDoor
