/- LiteralJoins: the walk. Where nothing is open behind a text, its value goes ahead of the other one's. -/
import Derived.Test.YtjkiapgboljabaaVl8
import Derived.Test.YtjkiapgboljabaaPj8
namespace Go.Proofs.Ytjkiapgboljabaa
open Go.RowKit
set_option linter.unusedVariables false
set_option linter.unusedSimpArgs false
set_option maxRecDepth 100000
theorem in_35 (l : List UInt8) (w : World) (hl : l.length ≤ 1000000) :
    Calls Try.prog 32 #[.int .u8 35, .string ⟨l.toArray⟩] w fun e w' => e = .returned (.bool (inL 35 l)) ∧ w = w' := in_c 35 l w hl
theorem valT_len (l : List UInt8) (hl : l.length ≤ 100) : (valT l).length ≤ 30000 := by
  unfold valT
  split
  · have h1 := txL_len (pcsL l) 100 (fun x hx => Nat.le_trans (pcsL_tx l x hx) hl)
    have h2 := pcsL_len l
    have := Nat.mul_le_mul_right 100 (show (pcsL l).length ≤ 200 by omega)
    omega
  · simp
set_option maxHeartbeats 2000000 in
theorem literalJoins_w (l t : List UInt8) (w : World) (hm : l.length ≤ 9223372036854775807) (hm2 : t.length ≤ 9223372036854775807) :
    Calls Try.prog 11 #[.string ⟨l.toArray⟩, .string ⟨t.toArray⟩] w fun e w' => e = .returned (.bool true) ∧ Below w.heap.size w w' := by
  by_cases hl : 100 < l.length
  · have k1 : decide ((100 : Int) < (l.length : Int)) = true := by simp; omega
    go_enter Try.func11, Try.ntmps11
    go_wp2_with (
      (go_at_call 31
       refine (awake8_c _).mono ?_
       rintro e w1 ⟨rfl, hb1⟩
       have H1 := Lib.hid hb1
       clear hb1))
    go_ret
    exact ⟨rfl, H1.out⟩
  have k1 : decide ((100 : Int) < (l.length : Int)) = false := by simp; omega
  by_cases hl2 : 100 < t.length
  · have k2 : decide ((100 : Int) < (t.length : Int)) = true := by simp; omega
    go_enter Try.func11, Try.ntmps11
    go_wp2_with (
      (go_at_call 31
       refine (awake8_c _).mono ?_
       rintro e w1 ⟨rfl, hb1⟩
       have H1 := Lib.hid hb1
       clear hb1))
    go_ret
    exact ⟨rfl, H1.out⟩
  have k2 : decide ((100 : Int) < (t.length : Int)) = false := by simp; omega
  cases hq : inL 35 t
  rotate_left
  · have HI := Lib.hid hq
    clear hq
    go_enter Try.func11, Try.ntmps11
    go_wp2_with (first
      | (go_at_call 31
         refine (awake8_c _).mono ?_
         rintro e w1 ⟨rfl, hb1⟩
         have H1 := Lib.hid hb1
         clear hb1)
      | (go_at_call 32
         refine (in_35 _ _ (by omega)).mono ?_
         rintro e w2 ⟨rfl, rfl⟩
         rw [HI.out]))
    go_ret
    exact ⟨rfl, H1.out⟩
  have hq' : ∀ b ∈ t, b.toNat ≠ 35 := by
    intro b hb e
    have : inL 35 t = true := by unfold inL; rw [List.any_eq_true]; exact ⟨b, hb, by simpa using e⟩
    rw [hq] at this; cases this
  have HI := Lib.hid hq
  obtain ⟨n, hn⟩ : ∃ n, n = (rAt l l.length).1.length := ⟨_, rfl⟩
  obtain ⟨va, hva⟩ : ∃ va, va = valB l := ⟨_, rfl⟩
  obtain ⟨vb, hvb⟩ : ∃ vb, vb = valB t := ⟨_, rfl⟩
  have HV := Lib.hid (And.intro hn (And.intro hva hvb))
  have hj : n = 1 → va = true → vb = true → valB (l ++ t) = true ∧ valT (l ++ t) = valT l ++ valT t := by
    intro h1 h2 h3
    subst hn hva hvb
    exact joins_val h1 hq' h2 h3
  have HN := Lib.hid (show (l ++ t).length ≤ 900 by simp; omega)
  have hna : n ≤ 200 := by rw [hn]; have := rAt_len l l.length; omega
  have hl3 : l.length ≤ 100 := by omega
  have hv1 := valT_len l (by omega)
  have hv2 := valT_len t (by omega)
  have ht3 : t.length ≤ 100 := by omega
  clear hl hl2 hq hq' hn hva hvb
  by_cases h1 : n = 1
  rotate_left
  · have HJ := Lib.hid hj
    clear hj
    have k3 : decide ((n : Int) = 1) = false := by simp; omega
    go_enter Try.func11, Try.ntmps11
    go_wp2_with (first
      | (go_at_call 31
         refine (awake8_c _).mono ?_
         rintro e w1 ⟨rfl, hb1⟩
         have H1 := Lib.hid hb1
         clear hb1)
      | (go_at_call 32
         refine (in_35 _ _ (by omega)).mono ?_
         rintro e w2 ⟨rfl, rfl⟩
         rw [HI.out])
      | (go_at_call 34
         refine (run_m l _ (by omega)).mono ?_
         rintro e w3 ⟨g3, c3, rfl, hfr, hb3⟩
         rw [← HV.out.1]
         have H3 := Lib.hid (H1.out.trans (hb3.mono H1.out.size))
         clear hb3 hfr)
      | (go_at_call 33
         with_reducible refine (value_m l _ (by omega)).mono ?_
         rintro e w4 ⟨rfl, hb4⟩
         rw [← HV.out.2.1]
         have H4 := Lib.hid (H3.out.trans (hb4.mono H3.out.size))
         clear hb4)
      | (go_at_call 33
         with_reducible refine (value_m t _ (by omega)).mono ?_
         rintro e w5 ⟨rfl, hb5⟩
         rw [← HV.out.2.2]
         have H5 := Lib.hid (H4.out.trans (hb5.mono H4.out.size))
         clear hb5)
      | (go_at_call 33
         rw [ba_append]
         with_reducible refine (value_m (l ++ t) _ HN.out).mono ?_
         rintro e w6 ⟨he, hb6⟩
         rw [HJ.out.1, HJ.out.2] at he
         subst he
         rw [← ba_append]
         have H6 := Lib.hid (H5.out.trans (hb6.mono H5.out.size))
         clear hb6))
    go_ret
    exact ⟨rfl, H5.out⟩
  subst h1
  cases va
  · have HJ := Lib.hid hj
    clear hj
    go_enter Try.func11, Try.ntmps11
    go_wp2_with (first
      | (go_at_call 31
         refine (awake8_c _).mono ?_
         rintro e w1 ⟨rfl, hb1⟩
         have H1 := Lib.hid hb1
         clear hb1)
      | (go_at_call 32
         refine (in_35 _ _ (by omega)).mono ?_
         rintro e w2 ⟨rfl, rfl⟩
         rw [HI.out])
      | (go_at_call 34
         refine (run_m l _ (by omega)).mono ?_
         rintro e w3 ⟨g3, c3, rfl, hfr, hb3⟩
         rw [← HV.out.1]
         have H3 := Lib.hid (H1.out.trans (hb3.mono H1.out.size))
         clear hb3 hfr)
      | (go_at_call 33
         with_reducible refine (value_m l _ (by omega)).mono ?_
         rintro e w4 ⟨rfl, hb4⟩
         rw [← HV.out.2.1]
         have H4 := Lib.hid (H3.out.trans (hb4.mono H3.out.size))
         clear hb4)
      | (go_at_call 33
         with_reducible refine (value_m t _ (by omega)).mono ?_
         rintro e w5 ⟨rfl, hb5⟩
         rw [← HV.out.2.2]
         have H5 := Lib.hid (H4.out.trans (hb5.mono H4.out.size))
         clear hb5)
      | (go_at_call 33
         rw [ba_append]
         with_reducible refine (value_m (l ++ t) _ HN.out).mono ?_
         rintro e w6 ⟨he, hb6⟩
         rw [HJ.out.1, HJ.out.2] at he
         subst he
         rw [← ba_append]
         have H6 := Lib.hid (H5.out.trans (hb6.mono H5.out.size))
         clear hb6))
    go_ret
    exact ⟨rfl, H5.out⟩
  cases vb
  · have HJ := Lib.hid hj
    clear hj
    go_enter Try.func11, Try.ntmps11
    go_wp2_with (first
      | (go_at_call 31
         refine (awake8_c _).mono ?_
         rintro e w1 ⟨rfl, hb1⟩
         have H1 := Lib.hid hb1
         clear hb1)
      | (go_at_call 32
         refine (in_35 _ _ (by omega)).mono ?_
         rintro e w2 ⟨rfl, rfl⟩
         rw [HI.out])
      | (go_at_call 34
         refine (run_m l _ (by omega)).mono ?_
         rintro e w3 ⟨g3, c3, rfl, hfr, hb3⟩
         rw [← HV.out.1]
         have H3 := Lib.hid (H1.out.trans (hb3.mono H1.out.size))
         clear hb3 hfr)
      | (go_at_call 33
         with_reducible refine (value_m l _ (by omega)).mono ?_
         rintro e w4 ⟨rfl, hb4⟩
         rw [← HV.out.2.1]
         have H4 := Lib.hid (H3.out.trans (hb4.mono H3.out.size))
         clear hb4)
      | (go_at_call 33
         with_reducible refine (value_m t _ (by omega)).mono ?_
         rintro e w5 ⟨rfl, hb5⟩
         rw [← HV.out.2.2]
         have H5 := Lib.hid (H4.out.trans (hb5.mono H4.out.size))
         clear hb5)
      | (go_at_call 33
         rw [ba_append]
         with_reducible refine (value_m (l ++ t) _ HN.out).mono ?_
         rintro e w6 ⟨he, hb6⟩
         rw [HJ.out.1, HJ.out.2] at he
         subst he
         rw [← ba_append]
         have H6 := Lib.hid (H5.out.trans (hb6.mono H5.out.size))
         clear hb6))
    go_ret
    exact ⟨rfl, H5.out⟩
  obtain ⟨j1, j2⟩ := hj rfl rfl rfl
  have HJ := Lib.hid (And.intro j1 j2)
  clear hj j1 j2
  go_enter Try.func11, Try.ntmps11
  go_wp2_with (first
    | (go_at_call 31
       refine (awake8_c _).mono ?_
       rintro e w1 ⟨rfl, hb1⟩
       have H1 := Lib.hid hb1
       clear hb1)
    | (go_at_call 32
       refine (in_35 _ _ (by omega)).mono ?_
       rintro e w2 ⟨rfl, rfl⟩
       rw [HI.out])
    | (go_at_call 34
       refine (run_m l _ (by omega)).mono ?_
       rintro e w3 ⟨g3, c3, rfl, hfr, hb3⟩
       rw [← HV.out.1]
       have H3 := Lib.hid (H1.out.trans (hb3.mono H1.out.size))
       clear hb3 hfr)
    | (go_at_call 33
       with_reducible refine (value_m l _ (by omega)).mono ?_
       rintro e w4 ⟨rfl, hb4⟩
       rw [← HV.out.2.1]
       have H4 := Lib.hid (H3.out.trans (hb4.mono H3.out.size))
       clear hb4)
    | (go_at_call 33
       with_reducible refine (value_m t _ (by omega)).mono ?_
       rintro e w5 ⟨rfl, hb5⟩
       rw [← HV.out.2.2]
       have H5 := Lib.hid (H4.out.trans (hb5.mono H4.out.size))
       clear hb5)
    | (go_at_call 33
       rw [ba_append]
       with_reducible refine (value_m (l ++ t) _ HN.out).mono ?_
       rintro e w6 ⟨he, hb6⟩
       rw [HJ.out.1, HJ.out.2] at he
       subst he
       rw [← ba_append]
       have H6 := Lib.hid (H5.out.trans (hb6.mono H5.out.size))
       clear hb6))
  go_ret
  exact ⟨rfl, H6.out⟩
end Go.Proofs.Ytjkiapgboljabaa
