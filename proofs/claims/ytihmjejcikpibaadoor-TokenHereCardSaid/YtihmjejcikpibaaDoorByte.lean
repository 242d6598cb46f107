/- Classes of bytes: the program's (class.Of, class.Ends) and the reference's (quillwortref04.In, Class, Ends) are one function of the byte. -/
import Derived.Test.YtihmjejcikpibaaDoorMem
import Derived.Test.YtihmjejcikpibaaDoorPl6
namespace Go.Proofs.YtihmjejcikpibaaDoor
open Go.RowKit
set_option linter.unusedVariables false
set_option linter.unusedSimpArgs false
set_option maxRecDepth 100000
theorem of_c (c : UInt8) (w : World) :
    Calls Tryd.prog 31 #[.int .u8 (c.toNat : Int)] w fun e w' => e = .returned (.int .i64 (clsOf c)) ∧ w = w' := by
  go_enter Tryd.func31, Tryd.ntmps31
  go_wp2
  all_goals go_ret
  all_goals refine ⟨ret_int ?_, rfl⟩
  all_goals (show _ = clsOf c)
  all_goals go_light
  all_goals try simp only [beq_iff_eq, beq_eq_false_iff_ne, ne_eq] at *
  all_goals unfold clsOf
  all_goals (repeat (first | rw [if_pos (by omega)] | rw [if_neg (by omega)]))
theorem ends_c (c : UInt8) (w : World) :
    Calls Tryd.prog 63 #[.int .u8 (c.toNat : Int)] w fun e w' => e = .returned (.bool (endsB c)) ∧ w = w' := by
  go_enter Tryd.func63, Tryd.ntmps63
  go_wp2_with (go_at_call 31; refine (of_c _ _).mono ?_; rintro e w' ⟨rfl, rfl⟩)
  all_goals go_ret
  all_goals refine ⟨ret_bool ?_, rfl⟩
  all_goals (show _ = endsB c)
  all_goals go_light
  all_goals try simp only [beq_iff_eq, beq_eq_false_iff_ne, ne_eq] at *
  all_goals unfold endsB
  all_goals (rw [Bool.eq_iff_iff]; first | (simp_all; done) | (simp; omega) | omega)
theorem in_c (c : UInt8) (l : List UInt8) (w : World) (hl : l.length ≤ 1000000) :
    Calls Tryd.prog 24 #[.int .u8 (c.toNat : Int), .string ⟨l.toArray⟩] w fun e w' => e = .returned (.bool (inL c l)) ∧ w = w' := by
  go_enter Tryd.func24, Tryd.ntmps24
  go_wp2
  go_loop [5] (fun i => ∃ k : Nat, k ≤ l.length ∧ i = .int .i64 k ∧ inL c (l.take k) = false) (fun i => l.length - (intOf i).toNat)
  case atStart => exact ⟨0, by omega, rfl, rfl⟩
  case round =>
    obtain ⟨k, hk, rfl, hin⟩ := hrel
    have Hin := Lib.hid hin
    clear hin
    by_cases hlt : k < l.length
    · go_wp2
      · go_ret
        simp only [ba_get, beq_iff_eq] at *
        refine ⟨ret_bool ?_, trivial⟩
        refine (inL_of_take c l (k + 1) ?_).symm
        rw [inL_snoc c l k hlt]
        have : (l[k]).toNat = c.toNat := by omega
        simp [this]
      · simp only [ba_get, beq_eq_false_iff_ne, ne_eq] at *
        refine ⟨⟨k + 1, by omega, by go_num, ?_⟩, by simp [intOf]; omega⟩
        rw [inL_snoc c l k hlt, Hin.out]
        have : ¬ (l[k]).toNat = c.toNat := by omega
        simp [this]
    · go_wp2
      go_ret
      refine ⟨ret_bool ?_, rfl⟩
      have := Hin.out
      rw [List.take_of_length_le (by omega)] at this
      exact this.symm
theorem class_c (c : UInt8) (w : World) :
    Calls Tryd.prog 18 #[.int .u8 (c.toNat : Int)] w fun e w' => e = .returned (.int .i64 (clsOf c)) ∧ w = w' := by
  rw [← clsIn_eq]
  go_enter Tryd.func18, Tryd.ntmps18
  go_wp2_with (go_at_call 24; refine (in_c c _ _ (by decide)).mono ?_; rintro e w' ⟨rfl, rfl⟩)
  all_goals go_ret
  all_goals refine ⟨ret_int ?_, by first | rfl | trivial⟩
  all_goals (show _ = clsIn c)
  all_goals go_light
  all_goals try simp only [beq_iff_eq, beq_eq_false_iff_ne, ne_eq] at *
  all_goals unfold clsIn isMeta isQuote isLetter isDigit
  all_goals (repeat (first | rw [if_pos (by first | omega | assumption)] | rw [if_neg (by first | omega | simp [*])]))
end Go.Proofs.YtihmjejcikpibaaDoor
