/- Arguments that are structs: of one-cell fields, and lexings. Rows of structs, read cell by cell. -/
import Derived.Test.YtlbfdbinaekjoaaGreatDoorMem
namespace Go.Proofs.YtlbfdbinaekjoaaGreatDoor
open Go.RowKit Go.ChangeShapes Go.WideShapes Go.Deep
set_option linter.unusedVariables false
set_option linter.unusedSimpArgs false
set_option maxRecDepth 100000
theorem flatMap_get {α:Type} {lay:α→List Value} {sz:Nat} (hl:∀x,(lay x).length=sz):∀(L:List α) (k:Nat) (x:α) (j:Nat) (u:Value),L[k]? = some x→(lay x)[j]? = some u→(L.flatMap lay)[k*sz+j]? = some u
  | [],k,x,j,u,h,_=>by simp at h
  | a::r,0,x,j,u,h,hu=>by
    simp at h
    subst h
    rw[List.flatMap_cons,List.getElem?_append_left (by have:=(List.getElem?_eq_some_iff.1 hu).1;omega)]
    simpa using hu
  | a::r,k+1,x,j,u,h,hu=>by
    rw[List.flatMap_cons,List.getElem?_append_right (by rw[hl,Nat.add_mul];omega),hl,show (k+1)*sz+j-sz=k*sz+j by rw[Nat.add_mul];omega]
    exact flatMap_get hl r k x j u (by simpa using h) hu
theorem rd_sat {α:Type} {lay:α→List Value} {sz:Nat} (hl:∀x,(lay x).length=sz) {w:World} {B n c:Nat} {A:Option Addr} {L:List α} (h:Rd w B sz (.slice A n c) n (L.flatMap lay)) {k:Nat} {x:α} (hk:L[k]? = some x) (hn:n=L.length) :
    ∃g o,A=some ⟨g,o,none⟩∧g<B∧∀j u,(lay x)[j]? = some u→w.cell? ⟨g,o+k*sz+j,none⟩=some u:=by
  obtain⟨h1,A',c',h2,h3,h4,h5,h6⟩:=h
  cases h2
  have hkl:=(List.getElem?_eq_some_iff.1 hk).1
  obtain⟨g,o,ha,hg,hc⟩:=h6 (by omega)
  refine⟨g,o,ha,hg,fun j u hu=>?_⟩
  have:=hc (k*sz+j) _ (flatMap_get hl L k x j u hk hu)
  simpa [Nat.add_assoc] using this
end Go.Proofs.YtlbfdbinaekjoaaGreatDoor
