/- Arguments of the laws of chapter 13: rows of leaves. -/
import Derived.Test.YtlbfdbinaekjoaaGreatDoorQg13
namespace Go.Proofs.YtlbfdbinaekjoaaGreatDoor
open Go.RowKit Go.ChangeShapes Go.WideShapes Go.Deep
set_option linter.unusedVariables false
set_option linter.unusedSimpArgs false
set_option maxRecDepth 100000
theorem lf_row (r:List Value) (hl:r.length=[FK.i,FK.s,FK.i,FK.i].length) (h:Qk [.i,.s,.i,.i] r):∃x:Lf,r=lfc x:=by
  obtain⟨v0,h0,a,rfl,_⟩:=h 0 .i rfl
  obtain⟨v1,h1,l,rfl,_⟩:=h 1 .s rfl
  obtain⟨v2,h2,b,rfl,_⟩:=h 2 .i rfl
  obtain⟨v3,h3,c,rfl,_⟩:=h 3 .i rfl
  match r,hl with
  | [x,y,z,u],_=>
    simp at h0 h1 h2 h3
    subst h0 h1 h2 h3
    exact⟨⟨a,l,b,c⟩,rfl⟩
theorem lf_rows (rows:List (List Value)) (h:∀r∈rows,r.length=[FK.i,FK.s,FK.i,FK.i].length∧Qk [.i,.s,.i,.i] r):∃xs:List Lf,rows.flatten=lfcs xs∧xs.length=rows.length:=rows_data lfc lf_row rows h
end Go.Proofs.YtlbfdbinaekjoaaGreatDoor
