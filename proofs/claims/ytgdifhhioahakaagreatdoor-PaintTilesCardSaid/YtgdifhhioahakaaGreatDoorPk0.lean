/- Which parts are around a place, which are right within one: the tests. -/
import Derived.Test.YtgdifhhioahakaaGreatDoorPa0
import Derived.BigQuiet
import Derived.Deep.DeepCutAuto
import Derived.Deep.CutBlock
import Derived.IntWalk
namespace Go.Proofs.YtgdifhhioahakaaGreatDoor
open Go.RowKit
set_option linter.unusedVariables false
set_option linter.unusedSimpArgs false
set_option maxRecDepth 100000
theorem rd_at {w:World} {B sz n c:Nat} {A:Option Addr} {xs:List Value} (h:Rd w B sz (.slice A n c) n xs) (hn:0<n):∃g o,A=some ⟨g,o,none⟩∧g<B∧∀j u,xs[j]? = some u→w.cell? ⟨g,o+j,none⟩=some u:=by
  obtain⟨_,A',c',he,_,_,_,h2⟩:=h
  cases he
  exact h2 hn
theorem rd_part {w:World} {B n c:Nat} {A:Option Addr} {L:List Prt} (h:Rd w B 5 (.slice A n c) n (pcells L)) {i:Nat} {q:Prt} (hi:L[i]? = some q) :
    ∃g o,A=some ⟨g,o,none⟩∧g<B∧w.cell? ⟨g,o+i*5,none⟩=some (.int .i64 q.mode)∧w.cell? ⟨g,o+i*5+1,none⟩=some (.int .i64 q.fr)∧w.cell? ⟨g,o+i*5+2,none⟩=some (.int .i64 (toP q))∧w.cell? ⟨g,o+i*5+3,none⟩=some (.int .i64 q.up)∧w.cell? ⟨g,o+i*5+4,none⟩=some (.bool q.op):=by
  have hn:n=L.length:=by have h1:=h.1;rw[pcells_len] at h1;omega
  have hL:=(List.getElem?_eq_some_iff.1 hi).1
  obtain⟨g,o,rfl,hg,hc⟩:=rd_at h (by omega)
  exact⟨g,o,rfl,hg,hc _ _ (pcells_get _ i q hi 0 _ rfl),by rw[Nat.add_assoc];exact hc _ _ (pcells_get _ i q hi 1 _ rfl),by rw[Nat.add_assoc];exact hc _ _ (pcells_get _ i q hi 2 _ rfl),by rw[Nat.add_assoc];exact hc _ _ (pcells_get _ i q hi 3 _ rfl),by rw[Nat.add_assoc];exact hc _ _ (pcells_get _ i q hi 4 _ rfl)⟩
end Go.Proofs.YtgdifhhioahakaaGreatDoor
