/- LiteralDouble: the walk. A text between double quotes, with a backslash ahead of each dollar, backquote, double quote and backslash, has itself as value. -/
import Derived.Test.YtjkiapgboljabaaVl8
import Derived.Test.YtjkiapgboljabaaPs8
namespace Go.Proofs.Ytjkiapgboljabaa
open Go.RowKit
set_option linter.unusedVariables false
set_option linter.unusedSimpArgs false
set_option maxRecDepth 100000
theorem dqe_snoc (l : List UInt8) (c : UInt8) : dqe (l ++ [c]) = dqe l ++ (if escB c = true then [92, c] else [c]) := by simp [dqe]
theorem dqe_len (l : List UInt8) : (dqe l).length ≤ 2 * l.length := by
  induction l with
  | nil => simp [dqe]
  | cons a r ih =>
    have : (dqe (a :: r)).length ≤ 2 + (dqe r).length := by simp only [dqe, List.flatMap_cons, List.length_append]; split <;> simp
    simp; omega
theorem esc_in4 (c : UInt8) : inL c [36, 96, 34, 92] = escB c := by
  have := byte_all (fun c => inL c [36, 96, 34, 92] == escB c) (by decide +kernel) c
  simpa using this
set_option maxHeartbeats 2000000 in
theorem literalDouble_w (l : List UInt8) (w : World) (hm : l.length ≤ 9223372036854775807) :
    Calls Try.prog 10 #[.string ⟨l.toArray⟩] w fun e w' => e = .returned (.bool true) ∧ Below w.heap.size w w' := by
  by_cases hl : 100 < l.length
  · have k1 : decide ((100 : Int) < (l.length : Int)) = true := by simp; omega
    go_enter Try.func10, Try.ntmps10
    go_wp2_with (
      (go_at_call 31
       refine (awake8_c _).mono ?_
       rintro e w1 ⟨rfl, hb1⟩
       have H1 := Lib.hid hb1
       clear hb1))
    go_ret
    exact ⟨rfl, H1.out⟩
  · have k1 : decide ((100 : Int) < (l.length : Int)) = false := by simp; omega
    have hl0 : l.length ≤ 100 := by omega
    go_enter Try.func10, Try.ntmps10
    go_wp2_with (
      (go_at_call 31
       refine (awake8_c _).mono ?_
       rintro e w1 ⟨rfl, hb1⟩
       have H1 := Lib.hid hb1
       clear hb1))
    go_loopw [4, 3] (fun i s wr => ∃ k : Nat, k ≤ l.length ∧ i = .int .i64 k ∧ s = .string ⟨(34 :: dqe (l.take k)).toArray⟩ ∧ wr = w1) (fun i _ _ => l.length - (intOf i).toNat)
    case atStart => exact ⟨0, by omega, rfl, rfl, rfl⟩
    case round =>
      obtain ⟨k, hk, rfl, rfl, rfl⟩ := hrel
      by_cases hlt : k < l.length
      · have u1 : (k : Int) < (l.length : Int) := by omega
        have u2 : (0 : Int) ≤ (k : Int) := by omega
        have u3 : (k : Int) + 1 ≤ (l.length : Int) := by omega
        obtain ⟨d, hd⟩ : ∃ d, l[k]? = some d := ⟨_, List.getElem?_eq_getElem hlt⟩
        obtain ⟨hL1, hL2⟩ := List.getElem?_eq_some_iff.1 hd
        have hL : ∃ h : k < (ByteArray.mk l.toArray).size, (ByteArray.mk l.toArray)[k]'h = d := ⟨hL1, hL2⟩
        obtain ⟨hL3, hL4⟩ := hL
        have s1 : (dqe (l.take k)).length ≤ 200 := Nat.le_trans (dqe_len _) (by simp; omega)
        have htk : l.take (k + 1) = l.take k ++ [d] := by rw [List.take_succ_eq_append_getElem hL1, hL2]
        have hex : (ByteArray.mk l.toArray).extract k (k + 1) = ⟨[d].toArray⟩ := by rw [ba_extract, htk, List.drop_append_of_le_length (by simp; omega), List.drop_of_length_le (by simp; omega)]; rfl
        have q1 : escB d = true → ByteArray.mk (34 :: dqe (l.take k)).toArray ++ ByteArray.mk #[92] ++ ByteArray.mk [d].toArray = ⟨(34 :: dqe (l.take (k + 1))).toArray⟩ := by
          intro h
          rw [show ByteArray.mk #[92] = ByteArray.mk [92].toArray from rfl, ba_append, ba_append, htk, dqe_snoc, if_pos h]; simp
        have q2 : escB d = false → ByteArray.mk (34 :: dqe (l.take k)).toArray ++ ByteArray.mk [d].toArray = ⟨(34 :: dqe (l.take (k + 1))).toArray⟩ := by
          intro h
          rw [ba_append, htk, dqe_snoc, if_neg (by rw [h]; decide)]; simp
        cases h4 : escB d
        · have HQ := Lib.hid (And.intro hex (And.intro (q2 h4) h4))
          clear hex q1 q2 htk hd hL2 h4
          go_wp2_with (
            (go_at_call 32
             refine (in_c d [36, 96, 34, 92] _ (by decide)).mono ?_
             rintro e w2 ⟨he, rfl⟩
             rw [esc_in4, HQ.out.2.2] at he
             subst he))
          exact ⟨⟨k + 1, by omega, by go_num, by rw [HQ.out.1, HQ.out.2.1], by first | rfl | trivial⟩, by simp [intOf]; omega⟩
        · have HQ := Lib.hid (And.intro hex (And.intro (q1 h4) h4))
          clear hex q1 q2 htk hd hL2 h4
          go_wp2_with (
            (go_at_call 32
             refine (in_c d [36, 96, 34, 92] _ (by decide)).mono ?_
             rintro e w2 ⟨he, rfl⟩
             rw [esc_in4, HQ.out.2.2] at he
             subst he))
          exact ⟨⟨k + 1, by omega, by go_num, by rw [HQ.out.1, HQ.out.2.1], by first | rfl | trivial⟩, by simp [intOf]; omega⟩
      · obtain rfl : k = l.length := by omega
        rw [List.take_of_length_le (Nat.le_refl _)]
        obtain ⟨⟨q1, q2⟩, q3, q4⟩ := dq_val l
        have q5 : ByteArray.mk (34 :: dqe l).toArray ++ ByteArray.mk #[34] = ⟨(34 :: (dqe l ++ [34])).toArray⟩ := by
          rw [show ByteArray.mk #[34] = ByteArray.mk [34].toArray from rfl, ba_append]; simp
        obtain ⟨s1, hs1⟩ : ∃ s1, s1 = 34 :: dqe l := ⟨_, rfl⟩
        obtain ⟨s2, hs2⟩ : ∃ s2, s2 = 34 :: (dqe l ++ [34]) := ⟨_, rfl⟩
        have hdl := dqe_len l
        have s1l : s1.length ≤ 300 := by rw [hs1]; simp; omega
        have HN := Lib.hid (show s1.length ≤ 900 ∧ s2.length ≤ 900 by rw [hs1, hs2]; simp; omega)
        rw [← hs1] at q3 q4 q5
        rw [← hs2] at q1 q2 q5
        rw [← hs1]
        have HQ := Lib.hid (And.intro q1 (And.intro q2 (And.intro q3 q4)))
        have H5 := Lib.hid q5
        clear q1 q2 q3 q4 q5 hs1 hs2 hdl
        go_wp2_with (first
          | (go_at_call 33
             rw [H5.out]
             refine (value_m s2 _ HN.out.2).mono ?_
             rintro e w2 ⟨he, hb2⟩
             rw [HQ.out.1, HQ.out.2.1] at he
             subst he
             have H2 := Lib.hid (H1.out.trans (hb2.mono H1.out.size))
             clear hb2)
          | (go_at_call 33
             refine (value_m s1 _ HN.out.1).mono ?_
             rintro e w4 ⟨he, hb4⟩
             rw [HQ.out.2.2.1, HQ.out.2.2.2] at he
             subst he
             have H4 := Lib.hid (H2.out.trans (hb4.mono H2.out.size))
             clear hb4))
        go_ret
        exact ⟨rfl, H4.out⟩
end Go.Proofs.Ytjkiapgboljabaa
