/- Where a word ends: modes.ends, modes.End and the reference's End are one function of the text and the place. -/
import Derived.Test.YtihmjejcikpibaaDoorMo9
import Derived.Test.YtihmjejcikpibaaDoorPl6
namespace Go.Proofs.YtihmjejcikpibaaDoor
open Go.RowKit
set_option linter.unusedVariables false
set_option linter.unusedSimpArgs false
set_option maxRecDepth 100000
theorem ends1 (B b : Nat) (x : UInt8 × Int) (y : UInt8) (f : Bool) (at_ : Int) (w : World) (h : Mach w B b [x] f at_) :
    Calls Tryd.prog 45 #[.pointer (some ⟨b, 0, none⟩), .int .u8 (y.toNat : Int)] w fun e w' => e = .returned (.bool (endB [x] y)) ∧ w = w' := by
  obtain ⟨h1, g, cap, h2, h3⟩ := h
  have c0 : w.cell? ⟨b, 0, none⟩ = some (.slice (some ⟨g, 0, none⟩) 1 cap) := by rw [h2.cell]; rfl
  clear h1 h2 h3
  have e : endB [x] y = endsB y := by simp [endB]
  rw [e]
  cases hy : endsB y
  all_goals (
    have HY := Lib.hid hy
    clear hy e
    go_enter Tryd.func45, Tryd.ntmps45
    go_wp2_with (go_at_call 63; refine (ends_c y _).mono ?_; rintro e w' ⟨rfl, rfl⟩; rw [HY.out])
    go_ret
    first | exact ⟨rfl, rfl⟩ | exact ⟨rfl, trivial⟩ | simp)
theorem ends2 (B b : Nat) (c : UInt8) (p : Int) (x : UInt8 × Int) (y : UInt8) (f : Bool) (at_ : Int) (w : World) (h : Mach w B b [(c, p), x] f at_) :
    Calls Tryd.prog 45 #[.pointer (some ⟨b, 0, none⟩), .int .u8 (y.toNat : Int)] w fun e w' => e = .returned (.bool (endB [(c, p), x] y)) ∧ w = w' := by
  obtain ⟨g, cap, t0, t1, t2, t3⟩ := h.top (n := 1) (m := modeOf c) rfl rfl
  clear h
  have e : endB [(c, p), x] y = (endsB y && (decide (c.toNat = 76) && decide (y.toNat ≠ 40))) := by simp [endB]
  rw [e]
  have hm : (modeOf c == 12) = decide (c.toNat = 76) := by
    have := byte_all (fun c => (modeOf c == 12) == decide (c.toNat = 76)) (by decide +kernel) c
    simpa using this
  have hn : ((y.toNat : Int) != 40) = decide (y.toNat ≠ 40) := by
    rw [Bool.eq_iff_iff]; simp; omega
  rw [← hm, ← hn]
  generalize modeOf c = m at *
  clear e hm hn
  have HY : Lib.hid trivial = Lib.hid trivial := rfl
  cases hy : endsB y
  · have HY := Lib.hid hy
    clear hy
    go_enter Tryd.func45, Tryd.ntmps45
    go_wp2_with (go_at_call 63; refine (ends_c y _).mono ?_; rintro e w' ⟨rfl, rfl⟩; rw [HY.out])
    go_ret
    simp
  · have HY := Lib.hid hy
    clear hy
    cases hm : (m == 12)
    · go_enter Tryd.func45, Tryd.ntmps45
      go_wp2_with (go_at_call 63; refine (ends_c y _).mono ?_; rintro e w' ⟨rfl, rfl⟩; rw [HY.out])
      go_ret
      simp
    · go_enter Tryd.func45, Tryd.ntmps45
      go_wp2_with (go_at_call 63; refine (ends_c y _).mono ?_; rintro e w' ⟨rfl, rfl⟩; rw [HY.out])
      go_ret
      simp
theorem ends3 (B b : Nat) (st : Stk) (y : UInt8) (f : Bool) (at_ : Int) (w : World) (h : Mach w B b st f at_) (h3 : 3 ≤ st.length) :
    Calls Tryd.prog 45 #[.pointer (some ⟨b, 0, none⟩), .int .u8 (y.toNat : Int)] w fun e w' => e = .returned (.bool false) ∧ w = w' := by
  obtain ⟨h1, g, cap, h2, h3'⟩ := h
  have c0 : w.cell? ⟨b, 0, none⟩ = some (.slice (some ⟨g, 0, none⟩) st.length cap) := by rw [h2.cell]; rfl
  clear h1 h2 h3'
  generalize st.length = n at *
  have z1 : ((n : Int) == 1) = false := by rw [beq_eq_false_iff_ne]; omega
  have z2 : ((n : Int) == 2) = false := by rw [beq_eq_false_iff_ne]; omega
  cases hy : endsB y
  all_goals (
    have HY := Lib.hid hy
    clear hy
    go_enter Tryd.func45, Tryd.ntmps45
    go_wp2_with (go_at_call 63; refine (ends_c y _).mono ?_; rintro e w' ⟨rfl, rfl⟩; rw [HY.out])
    go_ret
    first | exact ⟨rfl, rfl⟩ | exact ⟨rfl, trivial⟩ | simp)
theorem ends_m (B b : Nat) (st : Stk) (y : UInt8) (f : Bool) (at_ : Int) (w : World) (h : Mach w B b st f at_) (hne : st ≠ []) :
    Calls Tryd.prog 45 #[.pointer (some ⟨b, 0, none⟩), .int .u8 (y.toNat : Int)] w fun e w' => e = .returned (.bool (endB st y)) ∧ w = w' := by
  match st, hne with
  | [x], _ => exact ends1 B b x y f at_ w h
  | [(c, p), x], _ => exact ends2 B b c p x y f at_ w h
  | x1 :: x2 :: x3 :: r, _ =>
    have e : endB (x1 :: x2 :: x3 :: r) y = false := by simp [endB]
    rw [e]
    exact ends3 B b _ y f at_ w h (by simp)
end Go.Proofs.YtihmjejcikpibaaDoor
