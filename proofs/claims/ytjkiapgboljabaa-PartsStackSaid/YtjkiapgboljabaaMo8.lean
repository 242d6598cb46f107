/- The program's machine: Feed, joined; New, Frames, Fresh, Run. -/
import Derived.Test.YtjkiapgboljabaaMo7
import Derived.Test.YtjkiapgboljabaaPl06c
namespace Go.Proofs.Ytjkiapgboljabaa
open Go.RowKit
set_option linter.unusedVariables false
set_option linter.unusedSimpArgs false
set_option maxRecDepth 100000
theorem val_cases (c : UInt8) (h : Val c = true) (h1 : c ≠ 76) (h2 : c ≠ 79) (h3 : c ≠ 69) : c = 84 ∨ c = 67 ∨ c = 80 ∨ c = 65 ∨ c = 82 ∨ c = 68 ∨ c = 73 ∨ c = 86 ∨ c = 88 ∨ c = 83 ∨ c = 35 ∨ c = 66 := by
  have := byte_all (fun c => !Val c || c == 76 || c == 79 || c == 69 || c == 84 || c == 67 || c == 80 || c == 65 || c == 82 || c == 68 || c == 73 || c == 86 || c == 88 || c == 83 || c == 35 || c == 66) (by decide +kernel) c
  simp only [h, Bool.not_true, Bool.false_or, Bool.or_eq_true, beq_iff_eq, h1, h2, h3, false_or] at this
  simpa [or_assoc] using this
theorem mode_ne (c : UInt8) (k : Int) (l : UInt8) (hk : modeOf l = k) (hl : (List.range 256).all (fun n => modeOf (UInt8.ofNat n) != modeOf l || UInt8.ofNat n == l) = true) (h : c ≠ l) : (modeOf c == k) = false := by
  have := byte_all (fun c => modeOf c != modeOf l || c == l) hl c
  rw [← hk]
  simp [h] at this
  simpa using this
theorem feed_m (B b : Nat) (st : Stk) (y : UInt8) (f : Bool) (at_ : Int) (w : World) (h : Mach w B b st f at_) (hbot : Bot st) (hv : Vst st) (hl : st.length ≤ 99960) (ha0 : 0 ≤ at_) (ha1 : at_ ≤ 1000000000) :
    Calls Try.prog 45 #[.pointer (some ⟨b, 0, none⟩), .int .u8 (y.toNat : Int)] w (Mo w B b (.tuple #[]) (rStep st f y at_).1 (rStep st f y at_).2 (at_ + 1)) := by
  match st, hbot, hv with
  | (c, p) :: r, hbot, hv =>
    simp only [List.length_cons] at hl
    have hne : c ≠ 84 → r ≠ [] := fun hc => (hbot.tail hc).ne
    rcases Decidable.em (c = 76) with rfl | h76
    · match r, hbot, hv with
      | [], hbot, _ => exact absurd hbot.single (by decide)
      | (d, q) :: r2, hbot, hv =>
        simp only [List.length_cons] at hl
        have hd := hv.2 (d, q) (by simp)
        have hdv := mid_val d hd
        obtain ⟨d1, d2, d3⟩ := mid_ne d hd
        have e76 : d ≠ 76 := fun e => d3 (by rw [e]; rfl)
        have e79 : d ≠ 79 := fun e => d1 (by rw [e]; rfl)
        have e69 : d ≠ 69 := fun e => d2 (by rw [e]; rfl)
        have hne2 : d ≠ 84 → r2 ≠ [] := fun hc => ((hbot.tail (by decide)).tail hc).ne
        rcases Decidable.em (y = 40) with rfl | hy40
        · exact fd_76_40 B b r2 p q d f at_ w h (by omega) ha0 ha1
        rcases Decidable.em (y = 36) with rfl | hy36
        · have e : rStep ((76, p) :: (d, q) :: r2) f 36 at_ = ((d, q) :: r2, f) := by simp [rStep]
          rw [e]
          exact fd_76_36 B b r2 p q d f at_ w h (by omega) ha0 ha1
        have n40 : y.toNat ≠ 40 := nn hy40
        have n36 : y.toNat ≠ 36 := nn hy36
        rcases Decidable.em (y = 123) with rfl | hy123
        · rcases Decidable.em (d = 68) with rfl | hd68
          · exact fd_76_123_5 B b r2 p q 68 rfl f at_ w h (by omega) ha0 ha1
          rcases Decidable.em (d = 73) with rfl | hd73
          · exact fd_76_123_8 B b r2 p q 73 rfl f at_ w h (by omega) ha0 ha1
          have n1 : d.toNat ≠ 68 := nn hd68
          have n2 : d.toNat ≠ 73 := nn hd73
          have e : rStep ((76, p) :: (d, q) :: r2) f 123 at_ = ((86, p) :: (d, q) :: r2, f) := by simp [rStep, n1, n2]
          rw [e]
          exact fd_76_123_x B b r2 p q d (modeOf d) rfl (mode_ne d 5 68 rfl (by decide +kernel) hd68) (mode_ne d 8 73 rfl (by decide +kernel) hd73) f at_ w h (by omega) ha0 ha1
        have n123 : y.toNat ≠ 123 := nn hy123
        have e : rStep ((76, p) :: (d, q) :: r2) f y at_ = rPlain ((d, q) :: r2) f d y at_ := by simp [rStep, n40, n36, n123]
        rw [e]
        exact fd_76_x B b r2 p q d (modeOf d) y (bf y 40 hy40) (bf y 123 hy123) (bf y 36 hy36) rfl (mode_ne d 12 76 rfl (by decide +kernel) e76) (mode_ne d 3 79 rfl (by decide +kernel) e79) (mode_ne d 11 69 rfl (by decide +kernel) e69) hne2 (val_cases d hdv e76 e79 e69) f at_ w h (by omega) ha0 ha1
    rcases Decidable.em (c = 79) with rfl | h79
    · rcases Decidable.em (y = 40) with rfl | hy40
      · exact fd_79_40 B b r p f at_ w h (by omega) (hne (by decide)) ha0 ha1
      have n40 : y.toNat ≠ 40 := nn hy40
      have e : rStep ((79, p) :: r) f y at_ = rPlain ((67, p) :: r) f 67 y at_ := by simp [rStep, n40]
      rw [e]
      exact fd_79_x B b r p y (bf y 40 hy40) f at_ w h (by omega) (hne (by decide)) ha0 ha1
    rcases Decidable.em (c = 69) with rfl | h69
    · rcases Decidable.em (y = 41) with rfl | hy41
      · exact fd_69_41 B b r p f at_ w h (by omega) (hne (by decide)) ha0 ha1
      have n41 : y.toNat ≠ 41 := nn hy41
      have e : rStep ((69, p) :: r) f y at_ = rPlain ((65, p) :: r) f 65 y at_ := by simp [rStep, n41]
      rw [e]
      exact fd_69_x B b r p y (bf y 41 hy41) f at_ w h (by omega) (hne (by decide)) ha0 ha1
    have n76 : c.toNat ≠ 76 := nn h76
    have n79 : c.toNat ≠ 79 := nn h79
    have n69 : c.toNat ≠ 69 := nn h69
    have e : rStep ((c, p) :: r) f y at_ = rPlain ((c, p) :: r) f c y at_ := by simp [rStep, n76, n79, n69]
    rw [e]
    exact feed_e B b r p (modeOf c) c y f at_ w h (by omega) rfl (mode_ne c 12 76 rfl (by decide +kernel) h76) (mode_ne c 3 79 rfl (by decide +kernel) h79) (mode_ne c 11 69 rfl (by decide +kernel) h69) hne (val_cases c hv.1 h76 h79 h69) ha0 ha1
end Go.Proofs.Ytjkiapgboljabaa
