/- LiteralEscaped: the walk. A text with a backslash ahead of each byte has itself as value, but for its newlines, which are gone. -/
import Derived.Test.YtjkiapgboljabaaVl8
import Derived.Test.YtjkiapgboljabaaQu8
import Derived.Test.YtjkiapgboljabaaPs8
namespace Go.Proofs.Ytjkiapgboljabaa
open Go.RowKit
set_option linter.unusedVariables false
set_option linter.unusedSimpArgs false
set_option maxRecDepth 100000
theorem noNl_snoc (l : List UInt8) (c : UInt8) : noNl (l ++ [c]) = noNl l ++ (if c.toNat = 10 then [] else [c]) := by
  unfold noNl
  rw [List.filter_append]
  by_cases h : c.toNat = 10 <;> simp [h]
set_option maxHeartbeats 2000000 in
theorem literalEscaped_w (l : List UInt8) (w : World) (hm : l.length ≤ 9223372036854775807) :
    Calls Try.prog 12 #[.string ⟨l.toArray⟩] w fun e w' => e = .returned (.bool true) ∧ Below w.heap.size w w' := by
  by_cases hl : 100 < l.length
  · have k1 : decide ((100 : Int) < (l.length : Int)) = true := by simp; omega
    go_enter Try.func12, Try.ntmps12
    go_wp2_with (
      (go_at_call 31
       refine (awake8_c _).mono ?_
       rintro e w1 ⟨rfl, hb1⟩
       have H1 := Lib.hid hb1
       clear hb1))
    go_ret
    exact ⟨rfl, H1.out⟩
  · have k1 : decide ((100 : Int) < (l.length : Int)) = false := by simp; omega
    have hl0 : l.length ≤ 100 := by omega
    go_enter Try.func12, Try.ntmps12
    go_wp2_with (
      (go_at_call 31
       refine (awake8_c _).mono ?_
       rintro e w1 ⟨rfl, hb1⟩
       have H1 := Lib.hid hb1
       clear hb1))
    go_loopw [5, 3, 4] (fun i s v wr => ∃ k : Nat, k ≤ l.length ∧ i = .int .i64 k ∧ s = .string ⟨(qbs (l.take k)).toArray⟩ ∧ v = .string ⟨(noNl (l.take k)).toArray⟩ ∧ wr = w1) (fun i _ _ _ => l.length - (intOf i).toNat)
    case atStart => exact ⟨0, by omega, rfl, rfl, rfl, rfl⟩
    case round =>
      obtain ⟨k, hk, rfl, rfl, rfl, rfl⟩ := hrel
      by_cases hlt : k < l.length
      · have u1 : (k : Int) < (l.length : Int) := by omega
        have u2 : (0 : Int) ≤ (k : Int) := by omega
        have u3 : (k : Int) + 1 ≤ (l.length : Int) := by omega
        obtain ⟨d, hd⟩ : ∃ d, l[k]? = some d := ⟨_, List.getElem?_eq_getElem hlt⟩
        obtain ⟨hL1, hL2⟩ := List.getElem?_eq_some_iff.1 hd
        have hL : ∃ h : k < (ByteArray.mk l.toArray).size, (ByteArray.mk l.toArray)[k]'h = d := ⟨hL1, hL2⟩
        obtain ⟨hL3, hL4⟩ := hL
        have s1 : (qbs (l.take k)).length ≤ 200 := by rw [qbs_len]; simp; omega
        have s2 : (noNl (l.take k)).length ≤ 100 := Nat.le_trans (List.length_filter_le _ _) (by simp; omega)
        have htk : l.take (k + 1) = l.take k ++ [d] := by rw [List.take_succ_eq_append_getElem hL1, hL2]
        have hex : (ByteArray.mk l.toArray).extract k (k + 1) = ⟨[d].toArray⟩ := by rw [ba_extract, htk, List.drop_append_of_le_length (by simp; omega), List.drop_of_length_le (by simp; omega)]; rfl
        have q1 : ByteArray.mk (qbs (l.take k)).toArray ++ ByteArray.mk #[92] ++ ByteArray.mk [d].toArray = ⟨(qbs (l.take (k + 1))).toArray⟩ := by
          rw [show ByteArray.mk #[92] = ByteArray.mk [92].toArray from rfl, ba_append, ba_append, htk, qbs_snoc]; simp
        have q2 : d.toNat ≠ 10 → ByteArray.mk (noNl (l.take k)).toArray ++ ByteArray.mk [d].toArray = ⟨(noNl (l.take (k + 1))).toArray⟩ := by
          intro h
          rw [ba_append, htk, noNl_snoc, if_neg h]
        have q3 : d.toNat = 10 → noNl (l.take (k + 1)) = noNl (l.take k) := by
          intro h
          rw [htk, noNl_snoc, if_pos h, List.append_nil]
        by_cases h10 : d.toNat = 10
        · have u4 : ((d.toNat : Int) != 10) = false := by simp; omega
          have HQ := Lib.hid (And.intro hex (And.intro q1 (q3 h10)))
          clear hex q1 q2 q3 htk hd hL2 h10
          go_wp2
          exact ⟨⟨k + 1, by omega, by go_num, by rw [HQ.out.1, HQ.out.2.1], by rw [HQ.out.2.2], by first | rfl | trivial⟩, by simp [intOf]; omega⟩
        · have u4 : ((d.toNat : Int) != 10) = true := by simp; omega
          have HQ := Lib.hid (And.intro hex (And.intro q1 (q2 h10)))
          clear hex q1 q2 q3 htk hd hL2 h10
          go_wp2
          exact ⟨⟨k + 1, by omega, by go_num, by rw [HQ.out.1, HQ.out.2.1], by rw [HQ.out.1, HQ.out.2.2], by first | rfl | trivial⟩, by simp [intOf]; omega⟩
      · obtain rfl : k = l.length := by omega
        rw [List.take_of_length_le (Nat.le_refl _)]
        obtain ⟨q1, q2, q3⟩ := escd_val l
        have HQ := Lib.hid (And.intro q1 (And.intro q2 q3))
        have HN := Lib.hid (show (qbs l).length ≤ 900 by rw [qbs_len]; omega)
        clear q1 q2 q3
        have hpos : decide ((0 : Int) < (l.length : Int)) = decide (0 < l.length) := by simp
        have HP := Lib.hid hpos
        clear hpos
        go_wp2_with (first
          | (go_at_call 33
             refine (value_m (qbs l) _ HN.out).mono ?_
             rintro e w2 ⟨he, hb2⟩
             rw [HQ.out.1, HQ.out.2.1] at he
             subst he
             have H2 := Lib.hid (H1.out.trans (hb2.mono H1.out.size))
             clear hb2)
          | (go_at_call 35
             refine (quotes_m (qbs l) _ HN.out).mono ?_
             rintro e w4 ⟨he, hb4⟩
             rw [HQ.out.2.2] at he
             subst he
             have H4 := Lib.hid (H2.out.trans (hb4.mono H2.out.size))
             clear hb4))
        go_ret
        exact ⟨by simp, H4.out⟩
end Go.Proofs.Ytjkiapgboljabaa
