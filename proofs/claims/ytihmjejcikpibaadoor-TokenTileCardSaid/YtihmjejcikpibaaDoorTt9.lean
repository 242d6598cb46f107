/- Package token: Text. -/
import Derived.Test.YtihmjejcikpibaaDoorSt9
namespace Go.Proofs.YtihmjejcikpibaaDoor
open Go.RowKit
set_option linter.unusedVariables false
set_option linter.unusedSimpArgs false
set_option maxRecDepth 100000
set_option maxHeartbeats 1000000 in
theorem text9_m (l : List UInt8) (t : Tk) (w : World) (h1 : t.fr ≤ t.to) (h2 : t.to ≤ l.length) :
    Calls Tryd.prog 12 #[.string ⟨l.toArray⟩, .agg #[.int .i64 (t.kd : Int), .int .i64 (t.fr : Int), .int .i64 (t.to : Int), .bool t.op]] w fun e w' => e = .returned (.string ⟨(sub l t.fr t.to).toArray⟩) ∧ Below w.heap.size w w' := by
  have u0 : ¬ (t.fr : Int) < 0 := by omega
  have u1 : ¬ (t.to : Int) < (t.fr : Int) := by omega
  have u2 : ¬ (l.length : Int) < (t.to : Int) := by omega
  have d0 : decide ((t.fr : Int) < 0) = false := by simp
  have d1 : decide ((t.to : Int) < (t.fr : Int)) = false := by simp; omega
  have d2 : decide ((l.length : Int) < (t.to : Int)) = false := by simp; omega
  have v0 : (0 : Int) ≤ (t.fr : Int) := by omega
  have v1 : (t.fr : Int) ≤ (t.to : Int) := by omega
  have v2 : (t.to : Int) ≤ (l.length : Int) := by omega
  go_enter Tryd.func12, Tryd.ntmps12
  go_wp2
  go_ret
  refine ⟨?_, ?_⟩
  · rw [ba_extract]; rfl
  · exact Below.alloc (Below.refl _ _) (Nat.le_refl _) _
end Go.Proofs.YtihmjejcikpibaaDoor
