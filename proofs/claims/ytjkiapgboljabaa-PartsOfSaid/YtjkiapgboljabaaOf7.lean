/- PartsOf: the walk. The parts of any text, and whether one expands, are as the document says. -/
import Derived.Test.YtjkiapgboljabaaIn7
import Derived.Test.YtjkiapgboljabaaExp
namespace Go.Proofs.Ytjkiapgboljabaa
open Go.RowKit
set_option linter.unusedVariables false
set_option linter.unusedSimpArgs false
set_option maxRecDepth 100000
set_option maxHeartbeats 2000000 in
theorem partsOf_w (l : List UInt8) (w : World) (hm : l.length ≤ 9223372036854775807) :
    Calls Try.prog 7 #[.string ⟨l.toArray⟩] w fun e w' => e = .returned (.bool true) ∧ Below w.heap.size w w' := by
  by_cases hl : 100 < l.length
  · have k1 : decide ((100 : Int) < (l.length : Int)) = true := by simp; omega
    go_enter Try.func7, Try.ntmps7
    go_wp2_with (go_at_call 17; refine (awake7_c _).mono ?_; rintro e w1 ⟨rfl, hb1⟩)
    go_ret
    exact ⟨rfl, hb1⟩
  · have k1 : decide ((100 : Int) < (l.length : Int)) = false := by simp; omega
    have hl0 : l.length ≤ 100 := by omega
    go_enter Try.func7, Try.ntmps7
    go_wp2_with (first
      | (go_at_call 17
         refine (awake7_c _).mono ?_
         rintro e w1 ⟨rfl, hb1⟩)
      | (go_at_call 22
         refine (of_rp l _ (by omega)).mono ?_
         rintro e w2 ⟨v, rfl, ho, hb2⟩
         obtain ⟨A, n, c, rfl⟩ := own_form' ho
         obtain rfl := own_len ho
         have H := Lib.hid (And.intro ho (hb1.trans (hb2.mono hb1.size)))
         clear ho hb1 hb2))
    have hpl := parts_len l
    obtain ⟨L, hL⟩ : ∃ L, L = partsL l := ⟨_, rfl⟩
    have hbd := parts_bnd l (by omega)
    rw [← hL] at hbd
    have HL := Lib.hid (And.intro hL hbd)
    rw [← hL] at hpl H ⊢
    clear hL hbd
    go_loopw [5, 4] (fun i s wr => ∃ k : Nat, k ≤ L.length ∧ i = .int .i64 k ∧ s = .bool ((L.take k).any expB) ∧ Below w2.heap.size w2 wr) (fun i _ _ => L.length - (intOf i).toNat)
    case atStart => exact ⟨0, by omega, rfl, rfl, Below.refl _ _⟩
    case round =>
      obtain ⟨k, hk, rfl, rfl, hb⟩ := hrel
      by_cases hlt : k < L.length
      · have u1 : (k : Int) < (L.length : Int) := by omega
        have u2 : (0 : Int) ≤ (k : Int) := by omega
        obtain ⟨q, hq⟩ : ∃ q, L[k]? = some q := ⟨_, List.getElem?_eq_getElem hlt⟩
        have ho := own_below H.out.1 hb
        obtain ⟨g, rfl⟩ := own_at ho (by omega)
        obtain ⟨y0, y1, y2, y3, y4⟩ := pcells_at ho hq
        obtain ⟨q0, q1, q2, q3⟩ := HL.out.2 q (List.mem_of_getElem? hq)
        have ha := any_take (P := expB) hq
        cases hs : (L.take k).any expB
        · rw [hs, Bool.false_or] at ha
          have HA := Lib.hid (And.intro ha hb)
          clear ha hb hq ho hs
          go_wp2_with (
            (go_at_call 24
             refine (expands_r q _ q0 q1 q2 q3).mono ?_
             rintro e w5 ⟨rfl, hb5⟩
             have H5 := Lib.hid hb5
             clear hb5))
          exact ⟨⟨k + 1, by omega, by go_num, by rw [HA.out.1], HA.out.2.trans (H5.out.mono HA.out.2.size)⟩, by simp [intOf]; omega⟩
        · rw [hs, Bool.true_or] at ha
          have HA := Lib.hid (And.intro ha hb)
          clear ha hb hq ho hs
          go_wp2_with fail
          exact ⟨⟨k + 1, by omega, by go_num, by rw [HA.out.1], HA.out.2⟩, by simp [intOf]; omega⟩
      · obtain rfl : k = L.length := by omega
        rw [List.take_of_length_le (Nat.le_refl _)]
        obtain ⟨X, hX⟩ : ∃ X, X = L.any expB := ⟨_, rfl⟩
        rw [← hX]
        have HX := Lib.hid (And.intro hX hb)
        clear hX hb
        go_wp2_with (first
          | (go_at_call 18
             refine (of_m l _ (by omega)).mono ?_
             rintro e w3 ⟨v3, rfl, ho3, hb3⟩
             rw [← HL.out.1] at ho3
             obtain ⟨A3, n3, c3, rfl⟩ := own_form' ho3
             obtain rfl := own_len ho3
             have H3 := Lib.hid (And.intro ho3 (HX.out.2.trans (hb3.mono HX.out.2.size)))
             clear ho3 hb3)
          | (go_at_call 25
             refine (same_m L c3 c A3 A _ (by omega) (Rd.of_own H3.out.1) (Rd.of_own (own_below H.out.1 H3.out.2))).mono ?_
             rintro e w4 ⟨rfl, hb4⟩
             have H4 := Lib.hid (H3.out.2.trans (hb4.mono H3.out.2.size))
             clear hb4)
          | (go_at_call 26
             refine (pexpands_m l _ (by omega)).mono ?_
             rintro e w5 ⟨he, hb5⟩
             rw [← HL.out.1, ← HX.out.1] at he
             subst he
             have H5 := Lib.hid (H4.out.trans (hb5.mono H4.out.size))
             clear hb5))
        go_ret
        refine ⟨?_, H.out.2.trans (H5.out.mono H.out.2.size)⟩
        simp
end Go.Proofs.Ytjkiapgboljabaa
