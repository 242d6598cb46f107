/- ModesEnd: the walk. Where a word ends that begins at any place of any text is as the reference says. -/
import Derived.Test.YtailnilhhbjkmaaEnd3
namespace Go.Proofs.Ytailnilhhbjkmaa
open Go.RowKit
set_option linter.unusedVariables false
set_option linter.unusedSimpArgs false
set_option maxHeartbeats 1000000 in
theorem modesEnd_w (l : List UInt8) (x : Int) (w : World) (hm : l.length ≤ 9223372036854775807) (hx : -9223372036854775808 ≤ x ∧ x ≤ 9223372036854775807) :
    Calls Try.prog 8 #[.string ⟨l.toArray⟩, .int .i64 x] w fun e w' => e = .returned (.bool true) ∧ Below w.heap.size w w' := by
  obtain ⟨hx0, hx1⟩ := hx
  by_cases hl : 200 < l.length
  · go_enter Try.func8, Try.ntmps8
    go_wp2_with (go_at_call 10; refine (awake_c _).mono ?_; rintro e w1 ⟨rfl, hb1⟩)
    go_ret
    exact ⟨rfl, hb1⟩
  · have hl0 : l.length ≤ 200 := by omega
    by_cases hout : x < 0 ∨ (l.length : Int) < x
    · have HO := Lib.hid hout
      rcases hout with h0 | h0
      · have t0 : decide (x < 0) = true := by simpa using h0
        go_enter Try.func8, Try.ntmps8
        go_wp2_with (first
          | (go_at_call 10
             refine (awake_c _).mono ?_
             rintro e w1 ⟨rfl, hb1⟩)
          | (go_at_call 20
             refine (endOut l x _ (by omega) HO.out).mono ?_
             rintro e w2 ⟨rfl, hb2⟩))
        go_ret
        exact ⟨rfl, hb1.trans (hb2.mono hb1.size)⟩
      · by_cases h1 : x < 0
        · omega
        · have t0 : decide (x < 0) = false := by simpa using h1
          have t2 : decide ((l.length : Int) < x) = true := by simpa using h0
          go_enter Try.func8, Try.ntmps8
          go_wp2_with (first
            | (go_at_call 10
               refine (awake_c _).mono ?_
               rintro e w1 ⟨rfl, hb1⟩)
            | (go_at_call 20
               refine (endOut l x _ (by omega) HO.out).mono ?_
               rintro e w2 ⟨rfl, hb2⟩))
          go_ret
          exact ⟨rfl, hb1.trans (hb2.mono hb1.size)⟩
    · obtain ⟨a, rfl⟩ := Int.eq_ofNat_of_zero_le (show 0 ≤ x by omega)
      have ha : a ≤ l.length := by omega
      have t0 : decide ((a : Int) < 0) = false := by simp
      have t2 : decide ((l.length : Int) < (a : Int)) = false := by simp; omega
      clear hout
      go_enter Try.func8, Try.ntmps8
      go_wp2_with (first
        | (go_at_call 10
           refine (awake_c _).mono ?_
           rintro e w1 ⟨rfl, hb1⟩)
        | (go_at_call 20
           refine (end_m l a _ (by omega) ha).mono ?_
           rintro e w2 ⟨rfl, hb2⟩)
        | (go_at_call 21
           refine (rend_c l a _ (by omega) ha).mono ?_
           rintro e w3 ⟨rfl, hb3⟩))
      go_ret
      exact ⟨ret_bool (by simp), (hb1.trans (hb2.mono hb1.size)).trans (hb3.mono (Nat.le_trans hb1.size hb2.size))⟩
end Go.Proofs.Ytailnilhhbjkmaa
