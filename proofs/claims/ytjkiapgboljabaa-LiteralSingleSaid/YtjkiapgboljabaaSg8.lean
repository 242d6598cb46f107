/- LiteralSingle: the walk. A text without a quote, between quotes, has itself as value; all of it is quoted. -/
import Derived.Test.YtjkiapgboljabaaVl8
import Derived.Test.YtjkiapgboljabaaPt8
import Derived.Test.YtjkiapgboljabaaQu8
import Derived.Test.YtjkiapgboljabaaPs8
namespace Go.Proofs.Ytjkiapgboljabaa
open Go.RowKit
set_option linter.unusedVariables false
set_option linter.unusedSimpArgs false
set_option maxRecDepth 100000
theorem in_39' (l : List UInt8) (w : World) (hl : l.length ≤ 1000000) :
    Calls Try.prog 32 #[.int .u8 39, .string ⟨l.toArray⟩] w fun e w' => e = .returned (.bool (inL 39 l)) ∧ w = w' := in_c 39 l w hl
set_option maxHeartbeats 2000000 in
theorem literalSingle_w (l : List UInt8) (w : World) (hm : l.length ≤ 9223372036854775807) :
    Calls Try.prog 15 #[.string ⟨l.toArray⟩] w fun e w' => e = .returned (.bool true) ∧ Below w.heap.size w w' := by
  by_cases hl : 100 < l.length
  · have k1 : decide ((100 : Int) < (l.length : Int)) = true := by simp; omega
    go_enter Try.func15, Try.ntmps15
    go_wp2_with (
      (go_at_call 31
       refine (awake8_c _).mono ?_
       rintro e w1 ⟨rfl, hb1⟩
       have H1 := Lib.hid hb1
       clear hb1))
    go_ret
    exact ⟨rfl, H1.out⟩
  · have k1 : decide ((100 : Int) < (l.length : Int)) = false := by simp; omega
    cases hq : inL 39 l
    · have hq' : ∀ b ∈ l, b.toNat ≠ 39 := by
        intro b hb e
        have : inL 39 l = true := by unfold inL; rw [List.any_eq_true]; exact ⟨b, hb, by simpa using e⟩
        rw [hq] at this; cases this
      obtain ⟨s, hs, q1, q2, q3, q4, hsl⟩ : ∃ s : List UInt8, ByteArray.mk #[39] ++ ByteArray.mk l.toArray ++ ByteArray.mk #[39] = ⟨s.toArray⟩ ∧ valB s = true ∧ valT s = l ∧ patT s = qbs l ∧ (partsL s).any quB = true ∧ s.length = l.length + 2 := by
        obtain ⟨p1, p2⟩ := single_pcs hq'
        have hb : valB (39 :: (l ++ [39])) = true := by unfold valB; rw [p1]; rfl
        refine ⟨39 :: (l ++ [39]), ?_, hb, ?_, ?_, p2, by simp⟩
        · rw [show ByteArray.mk #[39] = ByteArray.mk [39].toArray from rfl, ba_append, ba_append]; simp
        · unfold valT; rw [if_pos hb, p1]; simp [txL]
        · unfold patT; rw [if_pos hb, p1]; simp [patL, patP]
      have k2 : ((qbs l).length : Int) = 2 * (l.length : Int) := by rw [qbs_len]; omega
      have k3 : l.length ≤ 100 := by omega
      have HS := Lib.hid hs
      have HV := Lib.hid (And.intro q1 q2)
      have HP := Lib.hid (And.intro q1 q3)
      have HQ := Lib.hid q4
      have HN := Lib.hid (show s.length ≤ 900 by omega)
      have HI := Lib.hid hq
      clear hs q1 q2 q3 q4 hsl hq hq' hl
      go_enter Try.func15, Try.ntmps15
      go_wp2_with (first
        | (go_at_call 31
           refine (awake8_c _).mono ?_
           rintro e w1 ⟨rfl, hb1⟩
           have H1 := Lib.hid hb1
           clear hb1)
        | (go_at_call 32
           refine (in_39' _ _ (by omega)).mono ?_
           rintro e w2 ⟨rfl, rfl⟩
           rw [HI.out])
        | (go_at_call 33
           rw [HS.out]
           refine (value_m s _ HN.out).mono ?_
           rintro e w3 ⟨he, hb3⟩
           rw [HV.out.1, HV.out.2] at he
           subst he
           have H3 := Lib.hid (H1.out.trans (hb3.mono H1.out.size))
           clear hb3)
        | (go_at_call 38
           rw [HS.out]
           refine (pattern_m s _ HN.out).mono ?_
           rintro e w4 ⟨he, hb4⟩
           rw [HP.out.1, HP.out.2] at he
           subst he
           have H4 := Lib.hid (H3.out.trans (hb4.mono H3.out.size))
           clear hb4)
        | (go_at_call 35
           rw [HS.out]
           refine (quotes_m s _ HN.out).mono ?_
           rintro e w5 ⟨he, hb5⟩
           rw [HQ.out] at he
           subst he
           have H5 := Lib.hid (H4.out.trans (hb5.mono H4.out.size))
           clear hb5))
      go_ret
      exact ⟨rfl, H5.out⟩
    · have HI := Lib.hid hq
      clear hq
      go_enter Try.func15, Try.ntmps15
      go_wp2_with (first
        | (go_at_call 31
           refine (awake8_c _).mono ?_
           rintro e w1 ⟨rfl, hb1⟩
           have H1 := Lib.hid hb1
           clear hb1)
        | (go_at_call 32
           refine (in_39' _ _ (by omega)).mono ?_
           rintro e w2 ⟨rfl, rfl⟩
           rw [HI.out]))
      go_ret
      exact ⟨rfl, H1.out⟩
end Go.Proofs.Ytjkiapgboljabaa
