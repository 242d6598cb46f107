/- What shuts a mode: the program's closer and the law's. -/
import Derived.Test.YtihmjejcikpibaaDoorMo9
import Derived.Test.YtihmjejcikpibaaDoorByte
import Derived.Test.YtihmjejcikpibaaDoorPl06h
namespace Go.Proofs.YtihmjejcikpibaaDoor
open Go.RowKit
set_option linter.unusedVariables false
set_option linter.unusedSimpArgs false
set_option maxRecDepth 100000
theorem val_or (c : UInt8) (h : Val c = true) : c = 84 ∨ c = 67 ∨ c = 80 ∨ c = 79 ∨ c = 83 ∨ c = 68 ∨ c = 66 ∨ c = 86 ∨ c = 73 ∨ c = 65 ∨ c = 82 ∨ c = 69 ∨ c = 76 ∨ c = 88 ∨ c = 35 := by
  have := byte_all (fun c => !Val c || (c == 84 || c == 67 || c == 80 || c == 79 || c == 83 || c == 68 || c == 66 || c == 86 || c == 73 || c == 65 || c == 82 || c == 69 || c == 76 || c == 88 || c == 35)) (by decide +kernel) c
  simpa [h, or_assoc] using this
set_option maxHeartbeats 1000000 in
theorem closer_lit (m : Int) (l : List UInt8) (w : World)
    (h : (m = 0 ∧ l = []) ∨ (m = 1 ∧ l = [41]) ∨ (m = 2 ∧ l = [41]) ∨ (m = 3 ∧ l = [41]) ∨ (m = 4 ∧ l = [39]) ∨ (m = 5 ∧ l = [34]) ∨ (m = 6 ∧ l = [96]) ∨ (m = 7 ∧ l = [125]) ∨ (m = 8 ∧ l = [125]) ∨ (m = 9 ∧ l = [41, 41]) ∨ (m = 10 ∧ l = [41]) ∨ (m = 11 ∧ l = [41]) ∨ (m = 12 ∧ l = []) ∨ (m = 13 ∧ l = [10]) ∨ (m = 14 ∧ l = [10])) :
    Calls Tryd.prog 49 #[.int .i64 m] w fun e w' => e = .returned (.string ⟨l.toArray⟩) ∧ w = w' := by
  rcases h with ⟨rfl, rfl⟩ | ⟨rfl, rfl⟩ | ⟨rfl, rfl⟩ | ⟨rfl, rfl⟩ | ⟨rfl, rfl⟩ | ⟨rfl, rfl⟩ | ⟨rfl, rfl⟩ | ⟨rfl, rfl⟩ | ⟨rfl, rfl⟩ | ⟨rfl, rfl⟩ | ⟨rfl, rfl⟩ | ⟨rfl, rfl⟩ | ⟨rfl, rfl⟩ | ⟨rfl, rfl⟩ | ⟨rfl, rfl⟩
  all_goals (
    go_enter Tryd.func49, Tryd.ntmps49
    go_wp2
    go_ret
    exact ⟨rfl, rfl⟩)
theorem closer_m (c : UInt8) (w : World) (h : Val c = true) :
    Calls Tryd.prog 49 #[.int .i64 (modeOf c)] w fun e w' => e = .returned (.string ⟨(cloL c).toArray⟩) ∧ w = w' := by
  refine closer_lit _ _ w ?_
  rcases val_or c h with rfl | rfl | rfl | rfl | rfl | rfl | rfl | rfl | rfl | rfl | rfl | rfl | rfl | rfl | rfl <;> decide +kernel
theorem in_lit (c : UInt8) (l : List UInt8) (b : Bool) (w : World) (hl : l.length ≤ 100) (hb : inL c l = b) :
    Calls Tryd.prog 24 #[.int .u8 (c.toNat : Int), .string ⟨l.toArray⟩] w fun e w' => e = .returned (.bool b) ∧ w = w' := by
  rw [← hb]; exact in_c c l w (by omega)
end Go.Proofs.YtihmjejcikpibaaDoor
