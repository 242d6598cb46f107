/- Package relex: Apply, up to its loop. -/
import Derived.Test.YtnclfgkpcpcapaaGreatDoorTo10
import Derived.Test.YtnclfgkpcpcapaaGreatDoorNw10
import Derived.Test.YtnclfgkpcpcapaaGreatDoorEd10
import Derived.Deep.DeepCutAuto
import Derived.Deep.CutBlock
import Derived.Deep.RegionHeld3
namespace Go.Proofs.YtnclfgkpcpcapaaGreatDoor
open Go.RowKit
set_option linter.unusedVariables false
set_option linter.unusedSimpArgs false
set_option maxRecDepth 100000
theorem gen3 {P:Program} {c:Code} {Q:Exit→Act→World→Prop} {a:Act} {w:World} {cs1 cs2 cs3:Array Value} {t1 t2 t3:TypeId}
    (h:∀W,Below w.heap.size w W→Bk W w.heap.size t1 cs1→Bk W (w.heap.size+1) t2 cs2→Bk W (w.heap.size+1+1) t3 cs3→W.heap.size=w.heap.size+3→c.wp P Q a W):c.wp P Q a (((w.alloc (.cells cs1 t1)).alloc (.cells cs2 t2)).alloc (.cells cs3 t3)):=
  h _ ((((Below.refl _ _).alloc (Nat.le_refl _) _).alloc (by simp) _).alloc (by simp<;>omega) _) (((Bk.new _ _ _).alloc _).alloc _) ((bk_second w _ _ _ _).alloc _) (by simpa using Bk.new ((w.alloc (.cells cs1 t1)).alloc (.cells cs2 t2)) t3 cs3) (by simp)
end Go.Proofs.YtnclfgkpcpcapaaGreatDoor
