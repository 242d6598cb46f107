/- Two structs of three cells in memory, one stored behind the other. -/
import Derived.Test.YtjkiapgboljabaaRefM0
namespace Go.Proofs.Ytjkiapgboljabaa
open Go.RowKit
set_option linter.unusedVariables false
set_option linter.unusedSimpArgs false
set_option maxRecDepth 100000
/-- A struct of three cells is stored ahead of a call. -/
theorem call3 {P : Program} {f : FuncId} {args : Array Value} {Q : Ending → World → Prop} {w : World} {c : Nat} {t : TypeId} {u0 u1 u2 v0 v1 v2 : Value} (hb : Bk w c t #[u0, u1, u2])
    (h : ∀ F, Bk F c t #[v0, v1, v2] → w.grownBy F (some c) → Calls P f args F Q) :
    Calls P f args (((w.setCell ⟨c, 0, none⟩ v0).setCell ⟨c, 1, none⟩ v1).setCell ⟨c, 2, none⟩ v2) Q := by
  have hF : Bk (((w.setCell ⟨c, 0, none⟩ v0).setCell ⟨c, 1, none⟩ v1).setCell ⟨c, 2, none⟩ v2) c t #[v0, v1, v2] := by simpa using ((hb.set 0 v0).set 1 v1).set 2 v2
  exact h _ hF (grown_set (grown_set (grown_set (grown_refl _ _) _ _) _ _) _ _)
theorem bk_first (w : World) (cs1 cs2 : Array Value) (t1 t2 : TypeId) : Bk ((w.alloc (.cells cs1 t1)).alloc (.cells cs2 t2)) w.heap.size t1 cs1 := (Bk.new w t1 cs1).alloc _
theorem fin33 {P : Program} {fn : Func} {R : Ending → World → Prop} {e : Exit} {a : Act} {w : World} {c d : Nat} {t : TypeId} {u0 u1 u2 v0 v1 v2 x0 x1 x2 y0 y1 y2 : Value} (hb : Bk w c t #[u0, u1, u2]) (hd : Bk w d t #[x0, x1, x2]) (hne : d ≠ c)
    (h : ∀ F0 F, Bk F0 d t #[x0, x1, x2] → w.grownBy F0 (some c) → Bk F d t #[y0, y1, y2] → F0.grownBy F (some d) → F.cell? ⟨d, 0, none⟩ = some y0 → F.cell? ⟨d, 1, none⟩ = some y1 → F.cell? ⟨d, 2, none⟩ = some y2 → bodyPost P fn R e a F) :
    bodyPost P fn R e a ((((((w.setCell ⟨c, 0, none⟩ v0).setCell ⟨c, 1, none⟩ v1).setCell ⟨c, 2, none⟩ v2).setCell ⟨d, 0, none⟩ y0).setCell ⟨d, 1, none⟩ y1).setCell ⟨d, 2, none⟩ y2) := by
  have hg : w.grownBy (((w.setCell ⟨c, 0, none⟩ v0).setCell ⟨c, 1, none⟩ v1).setCell ⟨c, 2, none⟩ v2) (some c) := grown_set (grown_set (grown_set (grown_refl _ _) _ _) _ _) _ _
  have hd0 := hd.grown hg (by simpa using hne)
  exact fin3 hd0 fun F hF hgF z0 z1 z2 => h _ F hd0 hg hF hgF z0 z1 z2
end Go.Proofs.Ytjkiapgboljabaa
