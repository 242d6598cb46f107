/- What shuts a mode: the program's closer and the law's. -/
import Derived.Test.YtailnilhhbjkmaaLawA
import Derived.Test.YtailnilhhbjkmaaPl06h
namespace Go.Proofs.Ytailnilhhbjkmaa
open Go.RowKit
set_option linter.unusedVariables false
set_option linter.unusedSimpArgs false
theorem val_or (c : UInt8) (h : Val c = true) : c = 84 ∨ c = 67 ∨ c = 80 ∨ c = 79 ∨ c = 83 ∨ c = 68 ∨ c = 66 ∨ c = 86 ∨ c = 73 ∨ c = 65 ∨ c = 82 ∨ c = 69 ∨ c = 76 ∨ c = 88 ∨ c = 35 := by
  have := byte_all (fun c => !Val c || (c == 84 || c == 67 || c == 80 || c == 79 || c == 83 || c == 68 || c == 66 || c == 86 || c == 73 || c == 65 || c == 82 || c == 69 || c == 76 || c == 88 || c == 35)) (by decide +kernel) c
  simpa [h, or_assoc] using this
set_option maxHeartbeats 1000000 in
theorem closer_lit (m : Int) (l : List UInt8) (w : World)
    (h : (m = 0 ∧ l = []) ∨ (m = 1 ∧ l = [41]) ∨ (m = 2 ∧ l = [41]) ∨ (m = 3 ∧ l = [41]) ∨ (m = 4 ∧ l = [39]) ∨ (m = 5 ∧ l = [34]) ∨ (m = 6 ∧ l = [96]) ∨ (m = 7 ∧ l = [125]) ∨ (m = 8 ∧ l = [125]) ∨ (m = 9 ∧ l = [41, 41]) ∨ (m = 10 ∧ l = [41]) ∨ (m = 11 ∧ l = [41]) ∨ (m = 12 ∧ l = []) ∨ (m = 13 ∧ l = [10]) ∨ (m = 14 ∧ l = [10])) :
    Calls Try.prog 34 #[.int .i64 m] w fun e w' => e = .returned (.string ⟨l.toArray⟩) ∧ w = w' := by
  rcases h with ⟨rfl, rfl⟩ | ⟨rfl, rfl⟩ | ⟨rfl, rfl⟩ | ⟨rfl, rfl⟩ | ⟨rfl, rfl⟩ | ⟨rfl, rfl⟩ | ⟨rfl, rfl⟩ | ⟨rfl, rfl⟩ | ⟨rfl, rfl⟩ | ⟨rfl, rfl⟩ | ⟨rfl, rfl⟩ | ⟨rfl, rfl⟩ | ⟨rfl, rfl⟩ | ⟨rfl, rfl⟩ | ⟨rfl, rfl⟩
  all_goals (
    go_enter Try.func34, Try.ntmps34
    go_wp2
    go_ret
    exact ⟨rfl, rfl⟩)
theorem closer_m (c : UInt8) (w : World) (h : Val c = true) :
    Calls Try.prog 34 #[.int .i64 (modeOf c)] w fun e w' => e = .returned (.string ⟨(cloL c).toArray⟩) ∧ w = w' := by
  refine closer_lit _ _ w ?_
  rcases val_or c h with rfl | rfl | rfl | rfl | rfl | rfl | rfl | rfl | rfl | rfl | rfl | rfl | rfl | rfl | rfl <;> decide +kernel
theorem in_lit (c : UInt8) (l : List UInt8) (b : Bool) (w : World) (hl : l.length ≤ 100) (hb : inL c l = b) :
    Calls Try.prog 19 #[.int .u8 (c.toNat : Int), .string ⟨l.toArray⟩] w fun e w' => e = .returned (.bool b) ∧ w = w' := by
  rw [← hb]; exact in_c c l w (by omega)
theorem closer_cases (c : UInt8) (h : Val c = true) (r : List UInt8) (hr : r = cloL c) : (((c.toNat : Int) == 83) = true ∧ r = [39]) ∨
    (((c.toNat : Int) == 83) = false ∧ ((c.toNat : Int) == 68) = true ∧ r = [34]) ∨
    (((c.toNat : Int) == 83) = false ∧ ((c.toNat : Int) == 68) = false ∧ ((c.toNat : Int) == 66) = true ∧ r = [96]) ∨
    (((c.toNat : Int) == 83) = false ∧ ((c.toNat : Int) == 68) = false ∧ ((c.toNat : Int) == 66) = false ∧ inL c [86, 73] = true ∧ r = [125]) ∨
    (((c.toNat : Int) == 83) = false ∧ ((c.toNat : Int) == 68) = false ∧ ((c.toNat : Int) == 66) = false ∧ inL c [86, 73] = false ∧ inL c [67, 79, 80, 82, 69] = true ∧ r = [41]) ∨
    (((c.toNat : Int) == 83) = false ∧ ((c.toNat : Int) == 68) = false ∧ ((c.toNat : Int) == 66) = false ∧ inL c [86, 73] = false ∧ inL c [67, 79, 80, 82, 69] = false ∧ ((c.toNat : Int) == 65) = true ∧ r = [41, 41]) ∨
    (((c.toNat : Int) == 83) = false ∧ ((c.toNat : Int) == 68) = false ∧ ((c.toNat : Int) == 66) = false ∧ inL c [86, 73] = false ∧ inL c [67, 79, 80, 82, 69] = false ∧ ((c.toNat : Int) == 65) = false ∧ inL c [88, 35] = true ∧ r = [10]) ∨
    (((c.toNat : Int) == 83) = false ∧ ((c.toNat : Int) == 68) = false ∧ ((c.toNat : Int) == 66) = false ∧ inL c [86, 73] = false ∧ inL c [67, 79, 80, 82, 69] = false ∧ ((c.toNat : Int) == 65) = false ∧ inL c [88, 35] = false ∧ r = []) := by
  subst hr
  rcases val_or c h with rfl | rfl | rfl | rfl | rfl | rfl | rfl | rfl | rfl | rfl | rfl | rfl | rfl | rfl | rfl <;> decide +kernel
set_option maxHeartbeats 2000000 in
theorem closer_r (c : UInt8) (w : World) (h : Val c = true) :
    Calls Try.prog 22 #[.int .u8 (c.toNat : Int)] w fun e w' => e = .returned (.string ⟨(cloL c).toArray⟩) ∧ w = w' := by
  generalize hr : cloL c = r
  rcases closer_cases c h r hr.symm with ⟨h1, rfl⟩ | ⟨h1, h2, rfl⟩ | ⟨h1, h2, h3, rfl⟩ | ⟨h1, h2, h3, h4, rfl⟩ | ⟨h1, h2, h3, h4, h5, rfl⟩ | ⟨h1, h2, h3, h4, h5, h6, rfl⟩ | ⟨h1, h2, h3, h4, h5, h6, h7, rfl⟩ | ⟨h1, h2, h3, h4, h5, h6, h7, rfl⟩
  all_goals clear h hr
  · go_enter Try.func22, Try.ntmps22
    go_wp2
    go_ret
    exact ⟨rfl, rfl⟩
  · go_enter Try.func22, Try.ntmps22
    go_wp2
    go_ret
    exact ⟨rfl, rfl⟩
  · go_enter Try.func22, Try.ntmps22
    go_wp2
    go_ret
    exact ⟨rfl, rfl⟩
  · have H4 := Lib.hid h4
    clear h4
    go_enter Try.func22, Try.ntmps22
    go_wp2_with (first
      | (go_at_call 19; with_reducible refine (in_lit c [86, 73] true _ (by decide) H4.out).mono ?_; rintro e w2 ⟨rfl, rfl⟩))
    go_ret
    exact ⟨rfl, rfl⟩
  · have H4 := Lib.hid h4
    clear h4
    have H5 := Lib.hid h5
    clear h5
    go_enter Try.func22, Try.ntmps22
    go_wp2_with (first
      | (go_at_call 19; with_reducible refine (in_lit c [86, 73] false _ (by decide) H4.out).mono ?_; rintro e w2 ⟨rfl, rfl⟩)
      | (go_at_call 19; with_reducible refine (in_lit c [67, 79, 80, 82, 69] true _ (by decide) H5.out).mono ?_; rintro e w2 ⟨rfl, rfl⟩))
    go_ret
    exact ⟨rfl, rfl⟩
  · have H4 := Lib.hid h4
    clear h4
    have H5 := Lib.hid h5
    clear h5
    go_enter Try.func22, Try.ntmps22
    go_wp2_with (first
      | (go_at_call 19; with_reducible refine (in_lit c [86, 73] false _ (by decide) H4.out).mono ?_; rintro e w2 ⟨rfl, rfl⟩)
      | (go_at_call 19; with_reducible refine (in_lit c [67, 79, 80, 82, 69] false _ (by decide) H5.out).mono ?_; rintro e w2 ⟨rfl, rfl⟩))
    go_ret
    exact ⟨rfl, rfl⟩
  · have H4 := Lib.hid h4
    clear h4
    have H5 := Lib.hid h5
    clear h5
    have H7 := Lib.hid h7
    clear h7
    go_enter Try.func22, Try.ntmps22
    go_wp2_with (first
      | (go_at_call 19; with_reducible refine (in_lit c [86, 73] false _ (by decide) H4.out).mono ?_; rintro e w2 ⟨rfl, rfl⟩)
      | (go_at_call 19; with_reducible refine (in_lit c [67, 79, 80, 82, 69] false _ (by decide) H5.out).mono ?_; rintro e w2 ⟨rfl, rfl⟩)
      | (go_at_call 19; with_reducible refine (in_lit c [88, 35] true _ (by decide) H7.out).mono ?_; rintro e w2 ⟨rfl, rfl⟩))
    go_ret
    exact ⟨rfl, rfl⟩
  · have H4 := Lib.hid h4
    clear h4
    have H5 := Lib.hid h5
    clear h5
    have H7 := Lib.hid h7
    clear h7
    go_enter Try.func22, Try.ntmps22
    go_wp2_with (first
      | (go_at_call 19; with_reducible refine (in_lit c [86, 73] false _ (by decide) H4.out).mono ?_; rintro e w2 ⟨rfl, rfl⟩)
      | (go_at_call 19; with_reducible refine (in_lit c [67, 79, 80, 82, 69] false _ (by decide) H5.out).mono ?_; rintro e w2 ⟨rfl, rfl⟩)
      | (go_at_call 19; with_reducible refine (in_lit c [88, 35] false _ (by decide) H7.out).mono ?_; rintro e w2 ⟨rfl, rfl⟩))
    go_ret
    exact ⟨rfl, rfl⟩
end Go.Proofs.Ytailnilhhbjkmaa
