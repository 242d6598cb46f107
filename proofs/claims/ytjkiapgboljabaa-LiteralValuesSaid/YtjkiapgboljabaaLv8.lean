/- LiteralValues: the walk. The value of any text, its pattern, and what it is bare, are as the document says. -/
import Derived.Test.YtjkiapgboljabaaAw8
import Derived.Test.YtjkiapgboljabaaPt8
namespace Go.Proofs.Ytjkiapgboljabaa
open Go.RowKit
set_option linter.unusedVariables false
set_option linter.unusedSimpArgs false
set_option maxRecDepth 100000
set_option maxHeartbeats 2000000 in
theorem literalValues_w (l : List UInt8) (w : World) (hm : l.length ≤ 9223372036854775807) :
    Calls Try.prog 14 #[.string ⟨l.toArray⟩] w fun e w' => e = .returned (.bool true) ∧ Below w.heap.size w w' := by
  by_cases hl : 100 < l.length
  · have k1 : decide ((100 : Int) < (l.length : Int)) = true := by simp; omega
    go_enter Try.func14, Try.ntmps14
    go_wp2_with (go_at_call 31; refine (awake8_c _).mono ?_; rintro e w1 ⟨rfl, hb1⟩)
    go_ret
    exact ⟨rfl, hb1⟩
  · have k1 : decide ((100 : Int) < (l.length : Int)) = false := by simp; omega
    have hl0 : l.length ≤ 100 := by omega
    obtain ⟨X, hX⟩ : ∃ X, X = txL (pcsL l) := ⟨_, rfl⟩
    obtain ⟨Y, hY⟩ : ∃ Y, Y = patL (pcsL l) := ⟨_, rfl⟩
    cases hv : valB l
    · have HV := Lib.hid (show valT l = [] by unfold valT; rw [hv]; rfl)
      have HP := Lib.hid (show patT l = [] by unfold patT; rw [hv]; rfl)
      have HB := Lib.hid hv
      have HE := Lib.hid (show (pcsL l).any (·.ex) = true by unfold valB at hv; simpa using hv)
      have HX := Lib.hid (And.intro hX hY)
      clear hv hX hY
      go_enter Try.func14, Try.ntmps14
      go_wp2_with (first
        | (go_at_call 31
           refine (awake8_c _).mono ?_
           rintro e w1 ⟨rfl, hb1⟩
           have H1 := Lib.hid hb1
           clear hb1)
        | (go_at_call 33
           refine (value_m l _ (by omega)).mono ?_
           rintro e w2 ⟨he, hb2⟩
           rw [HV.out, HB.out] at he
           subst he
           have H2 := Lib.hid (H1.out.trans (hb2.mono H1.out.size))
           clear hb2)
        | (go_at_call 38
           refine (pattern_m l _ (by omega)).mono ?_
           rintro e w3 ⟨he, hb3⟩
           rw [HP.out, HB.out] at he
           subst he
           have H3 := Lib.hid (H2.out.trans (hb3.mono H2.out.size))
           clear hb3)
        | (go_at_call 39
           refine (bare_m l _ (by omega)).mono ?_
           rintro e w4 ⟨he, hb4⟩
           rw [← HX.out.1] at he
           subst he
           have H4 := Lib.hid (H3.out.trans (hb4.mono H3.out.size))
           clear hb4)
        | (go_at_call 41
           refine (expands8_r l _ (by omega)).mono ?_
           rintro e w6 ⟨he, hb6⟩
           rw [HE.out] at he
           subst he
           have H6 := Lib.hid (H5.out.trans (hb6.mono H5.out.size))
           clear hb6)
        | (go_at_call 40
           refine (bare_r l w4 (by omega)).mono ?_
           rintro e w5 ⟨he, hb5⟩
           rw [← HX.out.1] at he
           subst he
           have H5 := Lib.hid (H4.out.trans (hb5.mono H4.out.size))
           clear hb5))
      go_ret
      exact ⟨rfl, H6.out⟩
    · have HV := Lib.hid (show valT l = X by unfold valT; rw [hv]; exact hX.symm)
      have HP := Lib.hid (show patT l = Y by unfold patT; rw [hv]; exact hY.symm)
      have HB := Lib.hid hv
      have HE := Lib.hid (show (pcsL l).any (·.ex) = false by unfold valB at hv; simpa using hv)
      have HX := Lib.hid (And.intro hX hY)
      clear hv hX hY
      go_enter Try.func14, Try.ntmps14
      go_wp2_with (first
        | (go_at_call 31
           refine (awake8_c _).mono ?_
           rintro e w1 ⟨rfl, hb1⟩
           have H1 := Lib.hid hb1
           clear hb1)
        | (go_at_call 33
           refine (value_m l _ (by omega)).mono ?_
           rintro e w2 ⟨he, hb2⟩
           rw [HV.out, HB.out] at he
           subst he
           have H2 := Lib.hid (H1.out.trans (hb2.mono H1.out.size))
           clear hb2)
        | (go_at_call 38
           refine (pattern_m l _ (by omega)).mono ?_
           rintro e w3 ⟨he, hb3⟩
           rw [HP.out, HB.out] at he
           subst he
           have H3 := Lib.hid (H2.out.trans (hb3.mono H2.out.size))
           clear hb3)
        | (go_at_call 39
           refine (bare_m l _ (by omega)).mono ?_
           rintro e w4 ⟨he, hb4⟩
           rw [← HX.out.1] at he
           subst he
           have H4 := Lib.hid (H3.out.trans (hb4.mono H3.out.size))
           clear hb4)
        | (go_at_call 41
           refine (expands8_r l _ (by omega)).mono ?_
           rintro e w6 ⟨he, hb6⟩
           rw [HE.out] at he
           subst he
           have H6 := Lib.hid (H5.out.trans (hb6.mono H5.out.size))
           clear hb6)
        | (go_at_call 40
           refine (bare_r l w4 (by omega)).mono ?_
           rintro e w5 ⟨he, hb5⟩
           rw [← HX.out.1] at he
           subst he
           have H5 := Lib.hid (H4.out.trans (hb5.mono H4.out.size))
           clear hb5)
        | (go_at_call 40
           refine (bare_r l w6 (by omega)).mono ?_
           rintro e w7 ⟨he, hb7⟩
           rw [← HX.out.1] at he
           subst he
           have H7 := Lib.hid (H6.out.trans (hb7.mono H6.out.size))
           clear hb7)
        | (go_at_call 42
           refine (pattern_r l _ (by omega)).mono ?_
           rintro e w8 ⟨he, hb8⟩
           rw [← HX.out.2] at he
           subst he
           have H8 := Lib.hid (H7.out.trans (hb8.mono H7.out.size))
           clear hb8))
      go_ret
      exact ⟨rfl, H8.out⟩
end Go.Proofs.Ytjkiapgboljabaa
