/- LiteralSafe: the walk. A text of safe bytes is its own value, and its own pattern; nothing in it is quoted. -/
import Derived.Test.YtjkiapgboljabaaVl8
import Derived.Test.YtjkiapgboljabaaPt8
import Derived.Test.YtjkiapgboljabaaQu8
import Derived.Test.YtjkiapgboljabaaPl8
namespace Go.Proofs.Ytjkiapgboljabaa
open Go.RowKit
set_option linter.unusedVariables false
set_option linter.unusedSimpArgs false
set_option maxRecDepth 100000
theorem calm_val {l : List UInt8} (h : ∀ b ∈ l, calm b) : valB l = true ∧ valT l = l ∧ patT l = l ∧ (partsL l).any quB = false := by
  have hp := calm_pcs h
  have hb : valB l = true := by unfold valB; rw [hp]; unfold flP; split <;> rfl
  refine ⟨hb, ?_, ?_, by rw [calm_parts h]; rfl⟩
  · unfold valT; rw [if_pos hb, hp]; unfold flP; split
    · rename_i e; rw [e]; rfl
    · simp [txL]
  · unfold patT; rw [if_pos hb, hp]; unfold flP; split
    · rename_i e; rw [e]; rfl
    · simp [patL, patP]
def safeB (c : UInt8) : Bool := clsOf c == 5 || clsOf c == 6 || decide ((127 : Int) < (c.toNat : Int)) || inL c [37, 43, 44, 45, 46, 47, 58, 64]
theorem safe_calm (c : UInt8) (h : safeB c = true) : calm c := by
  have := byte_all (fun c => !safeB c || (c.toNat != 92 && c.toNat != 39 && c.toNat != 34 && c.toNat != 96 && c.toNat != 36 && c.toNat != 35 && c.toNat != 40 && c.toNat != 41)) (by decide +kernel) c
  simp [h] at this
  unfold calm
  omega
set_option maxHeartbeats 2000000 in
theorem safe_c (c : UInt8) (w : World) :
    Calls Try.prog 43 #[.int .u8 (c.toNat : Int)] w fun e w' => e = .returned (.bool (safeB c)) ∧ w = w' := by
  cases t5 : (clsOf c == 5)
  · cases t6 : (clsOf c == 6)
    · cases t127 : decide ((127 : Int) < (c.toNat : Int))
      · have HS := Lib.hid (show safeB c = inL c [37, 43, 44, 45, 46, 47, 58, 64] by unfold safeB; rw [t5, t6, t127]; simp)
        go_enter Try.func43, Try.ntmps43
        go_wp2_with (first
          | (go_at_call 70
             refine (class_c c _).mono ?_
             rintro e w' ⟨rfl, rfl⟩)
          | (go_at_call 32
             refine (in_c c [37, 43, 44, 45, 46, 47, 58, 64] _ (by decide)).mono ?_
             rintro e w' ⟨rfl, rfl⟩))
        go_ret
        exact ⟨by rw [HS.out]; rfl, rfl⟩
      · have HS := Lib.hid (show safeB c = true by unfold safeB; rw [t5, t6, t127]; simp)
        go_enter Try.func43, Try.ntmps43
        go_wp2_with (first
          | (go_at_call 70
             refine (class_c c _).mono ?_
             rintro e w' ⟨rfl, rfl⟩)
          | (go_at_call 32
             refine (in_c c [37, 43, 44, 45, 46, 47, 58, 64] _ (by decide)).mono ?_
             rintro e w' ⟨rfl, rfl⟩))
        go_ret
        exact ⟨by rw [HS.out]; rfl, rfl⟩
    · have HS := Lib.hid (show safeB c = true by unfold safeB; rw [t5, t6]; simp)
      go_enter Try.func43, Try.ntmps43
      go_wp2_with (first
        | (go_at_call 70
           refine (class_c c _).mono ?_
           rintro e w' ⟨rfl, rfl⟩)
        | (go_at_call 32
           refine (in_c c [37, 43, 44, 45, 46, 47, 58, 64] _ (by decide)).mono ?_
           rintro e w' ⟨rfl, rfl⟩))
      go_ret
      exact ⟨by rw [HS.out]; rfl, rfl⟩
  · have HS := Lib.hid (show safeB c = true by unfold safeB; rw [t5]; simp)
    go_enter Try.func43, Try.ntmps43
    go_wp2_with (first
      | (go_at_call 70
         refine (class_c c _).mono ?_
         rintro e w' ⟨rfl, rfl⟩)
      | (go_at_call 32
         refine (in_c c [37, 43, 44, 45, 46, 47, 58, 64] _ (by decide)).mono ?_
         rintro e w' ⟨rfl, rfl⟩))
    go_ret
    exact ⟨by rw [HS.out]; rfl, rfl⟩
set_option maxHeartbeats 2000000 in
theorem literalSafe_w (l : List UInt8) (w : World) (hm : l.length ≤ 9223372036854775807) :
    Calls Try.prog 16 #[.string ⟨l.toArray⟩] w fun e w' => e = .returned (.bool true) ∧ Below w.heap.size w w' := by
  by_cases hl : 100 < l.length
  · have k1 : decide ((100 : Int) < (l.length : Int)) = true := by simp; omega
    go_enter Try.func16, Try.ntmps16
    go_wp2_with (go_at_call 31; refine (awake8_c _).mono ?_; rintro e w1 ⟨rfl, hb1⟩)
    go_ret
    exact ⟨rfl, hb1⟩
  · have k1 : decide ((100 : Int) < (l.length : Int)) = false := by simp; omega
    have hl0 : l.length ≤ 100 := by omega
    go_enter Try.func16, Try.ntmps16
    go_wp2_with (
      (go_at_call 31
       refine (awake8_c _).mono ?_
       rintro e w1 ⟨rfl, hb1⟩
       have H1 := Lib.hid hb1
       clear hb1))
    go_loopw [3] (fun i wr => ∃ k : Nat, k ≤ l.length ∧ i = .int .i64 k ∧ (∀ b ∈ l.take k, calm b) ∧ wr = w1) (fun i _ => l.length - (intOf i).toNat)
    case atStart => exact ⟨0, by omega, rfl, by simp, rfl⟩
    case round =>
      obtain ⟨k, hk, rfl, hc, rfl⟩ := hrel
      by_cases hlt : k < l.length
      · have u1 : (k : Int) < (l.length : Int) := by omega
        have u2 : (0 : Int) ≤ (k : Int) := by omega
        obtain ⟨d, hd⟩ : ∃ d, l[k]? = some d := ⟨_, List.getElem?_eq_getElem hlt⟩
        obtain ⟨hL1, hL2⟩ := List.getElem?_eq_some_iff.1 hd
        have hL : ∃ h : k < (ByteArray.mk l.toArray).size, (ByteArray.mk l.toArray)[k]'h = d := ⟨hL1, hL2⟩
        obtain ⟨hL3, hL4⟩ := hL
        have HC := Lib.hid (show safeB d = true → ∀ b ∈ l.take (k + 1), calm b from fun hs b hb => by
          rw [List.take_succ_eq_append_getElem hL1, hL2] at hb
          rcases List.mem_append.1 hb with hb | hb
          · exact hc b hb
          · simp at hb; subst hb; exact safe_calm _ hs)
        clear hc hL2 hd
        cases hs : safeB d
        · have HS := Lib.hid hs
          clear hs
          go_wp2_with (
            (go_at_call 43
             refine (safe_c d _).mono ?_
             rintro e w2 ⟨he, rfl⟩
             rw [HS.out] at he
             subst he))
          go_ret
          exact ⟨rfl, H1.out⟩
        · have HS := Lib.hid hs
          clear hs
          go_wp2_with (
            (go_at_call 43
             refine (safe_c d _).mono ?_
             rintro e w2 ⟨he, rfl⟩
             rw [HS.out] at he
             subst he))
          exact ⟨⟨k + 1, by omega, by go_num, HC.out HS.out, by first | rfl | trivial⟩, by simp [intOf]; omega⟩
      · obtain rfl : k = l.length := by omega
        rw [List.take_of_length_le (Nat.le_refl _)] at hc
        obtain ⟨q1, q2, q3, q4⟩ := calm_val hc
        have HQ := Lib.hid (And.intro q1 (And.intro q2 (And.intro q3 q4)))
        clear hc q1 q2 q3 q4
        go_wp2_with (first
          | (go_at_call 33
             refine (value_m l _ (by omega)).mono ?_
             rintro e w2 ⟨he, hb2⟩
             rw [HQ.out.1, HQ.out.2.1] at he
             subst he
             have H2 := Lib.hid (H1.out.trans (hb2.mono H1.out.size))
             clear hb2)
          | (go_at_call 38
             refine (pattern_m l _ (by omega)).mono ?_
             rintro e w3 ⟨he, hb3⟩
             rw [HQ.out.1, HQ.out.2.2.1] at he
             subst he
             have H3 := Lib.hid (H2.out.trans (hb3.mono H2.out.size))
             clear hb3)
          | (go_at_call 35
             refine (quotes_m l _ (by omega)).mono ?_
             rintro e w4 ⟨he, hb4⟩
             rw [HQ.out.2.2.2] at he
             subst he
             have H4 := Lib.hid (H3.out.trans (hb4.mono H3.out.size))
             clear hb4))
        go_ret
        exact ⟨rfl, H4.out⟩
end Go.Proofs.Ytjkiapgboljabaa
