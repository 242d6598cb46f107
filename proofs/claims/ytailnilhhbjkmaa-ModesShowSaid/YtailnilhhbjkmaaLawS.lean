/- ModesShow: the walk. A stack's letters are those of its modes, one each. -/
import Derived.Test.YtailnilhhbjkmaaLawA
import Derived.Test.YtailnilhhbjkmaaArg
namespace Go.Proofs.Ytailnilhhbjkmaa
open Go.RowKit
set_option linter.unusedVariables false
set_option linter.unusedSimpArgs false
set_option maxHeartbeats 2000000 in
theorem modesShow_w (fl : List (Int × Int)) (A : Option Addr) (n c : Nat) (w : World) (hf : Rd w w.heap.size 2 (.slice A n c) n (ifl fl)) (hn : n = fl.length) (hm : n ≤ 9223372036854775807) :
    Calls Try.prog 5 #[.slice A n c] w fun e w' => e = .returned (.bool true) ∧ Below w.heap.size w w' := by
  by_cases hl : 100 < n
  · clear hf
    go_enter Try.func5, Try.ntmps5
    go_wp2_with (go_at_call 10; refine (awake_c _).mono ?_; rintro e w1 ⟨rfl, hb1⟩)
    go_ret
    exact ⟨rfl, hb1⟩
  · have hl0 : n ≤ 100 := by omega
    have hgt : decide ((100 : Int) < (n : Int)) = false := by simp; omega
    obtain ⟨sl, hsl, hsn⟩ : ∃ sl, sl = shL fl ∧ sl.length = n := ⟨_, rfl, by simp [shL, hn]⟩
    have H := Lib.hid (And.intro hf (And.intro hn (And.intro hsl hsn)))
    have hq : ((sl.length : Int) == (n : Int)) = true := by simp; omega
    have hq2 : ((sl.length : Int) != (n : Int)) = false := by simp; omega
    clear hf hn hl hsl hsn
    go_enter Try.func5, Try.ntmps5
    go_wp2_with (first
      | (go_at_call 10
         refine (awake_c _).mono ?_
         rintro e w1 ⟨rfl, hb1⟩)
      | (go_at_call 18
         refine (show_c fl _ _ _ _ (H.out.1.next hb1) H.out.2.1 (by omega)).mono ?_
         rintro e w2 ⟨rfl, hb2⟩
         rw [← H.out.2.2.1]
         have H2 := Lib.hid (hb1.trans (hb2.mono hb1.size))
         clear hb1 hb2))
    go_loopw [4] (fun i wr => ∃ j : Nat, j ≤ n ∧ i = .int .i64 j ∧ Below w.heap.size w wr) (fun i _ => n - (intOf i).toNat)
    case atStart => exact ⟨0, by omega, rfl, H2.out⟩
    case round =>
      obtain ⟨k, hk, rfl, hb⟩ := hrel
      by_cases hlt : k < n
      · obtain ⟨⟨m, p⟩, hmp⟩ : ∃ x, fl[k]? = some x := ⟨_, List.getElem?_eq_getElem (by have := H.out.2.1; omega)⟩
        obtain ⟨e1, e2⟩ := ifl_at fl k m p hmp
        obtain ⟨hf, hn, hsl, hsn⟩ := H.out
        obtain ⟨_, A', c', hs, _, _, _, hcs1⟩ := hf
        cases hs
        obtain ⟨g, o, rfl, hgB, hcells⟩ := hcs1 (by omega)
        have d1 : wr.cell? ⟨g, o + k * 2, none⟩ = some (.int .i64 m) := (hb.cell (p := ⟨g, o + k * 2, none⟩) hgB).trans (hcells _ _ e1)
        have k3 : (0 : Int) ≤ (k : Int) := by omega
        have k4 : (k : Int) < (n : Int) := by omega
        have k5 : (k : Int) < (sl.length : Int) := by omega
        have hSj : ∃ h : k < (ByteArray.mk sl.toArray).size, (ByteArray.mk sl.toArray)[k]'h = showB m := by
          have : sl[k]? = some (showB m) := by rw [hsl]; unfold shL; rw [List.getElem?_map, hmp]; rfl
          obtain ⟨h1, h2⟩ := List.getElem?_eq_some_iff.1 this
          exact ⟨h1, h2⟩
        obtain ⟨hSj1, hSj2⟩ := hSj
        have HB := Lib.hid hb
        clear hb hcells hcs1 e1 e2 hmp hn hsl hsn
        by_cases hm0 : m < 0
        · have t0 : decide (0 ≤ m) = false := by simpa using hm0
          have e3 : showB m = 63 := by unfold showB; rw [if_neg (by omega)]
          rw [e3] at hSj2
          clear e3
          go_wp2
          exact ⟨⟨k + 1, by omega, by go_num, HB.out⟩, by simp [intOf]; omega⟩
        · by_cases hm1 : m < 15
          · obtain ⟨mn, rfl⟩ := Int.eq_ofNat_of_zero_le (show 0 ≤ m by omega)
            have t0 : decide (0 ≤ (mn : Int)) = true := by simp
            have t1 : decide ((mn : Int) ≤ (14 : Int)) = true := by simp; omega
            have t3 : (mn : Int) < 15 := by omega
            have hmn : mn < 15 := by omega
            obtain ⟨c0, hc0⟩ : ∃ c0, LET[mn]? = some c0 := ⟨_, List.getElem?_eq_getElem hmn⟩
            have hL : ∃ h : mn < (ByteArray.mk #[84, 67, 80, 79, 83, 68, 66, 86, 73, 65, 82, 69, 76, 88, 35]).size, (ByteArray.mk #[84, 67, 80, 79, 83, 68, 66, 86, 73, 65, 82, 69, 76, 88, 35])[mn]'h = c0 := by
              obtain ⟨h1, h2⟩ := List.getElem?_eq_some_iff.1 hc0
              exact ⟨hmn, h2⟩
            obtain ⟨hL1, hL2⟩ := hL
            have e3 : showB (mn : Int) = c0 := by unfold showB; rw [if_pos (by omega)]; simp [List.getD, hc0]
            rw [e3] at hSj2
            clear e3 hc0
            go_wp2
            exact ⟨⟨k + 1, by omega, by go_num, HB.out⟩, by simp [intOf]; omega⟩
          · have t0 : decide (0 ≤ m) = true := by simp; omega
            have t1 : decide (m ≤ 14) = false := by simp; omega
            have e3 : showB m = 63 := by unfold showB; rw [if_neg (by omega)]
            rw [e3] at hSj2
            clear e3
            go_wp2
            exact ⟨⟨k + 1, by omega, by go_num, HB.out⟩, by simp [intOf]; omega⟩
      · go_wp2
        go_ret
        exact ⟨rfl, hb⟩
theorem fr_rows : ∀ rows : List (List Value), (∀ r ∈ rows, r.length = [FK.i, .i].length ∧ Qk [.i, .i] r) → ∃ xs : List (Int × Int), rows.flatten = ifl xs ∧ xs.length = rows.length :=
  rows_data (ks := [.i, .i]) (fun x : Int × Int => [.int .i64 x.1, .int .i64 x.2]) fun r hl h => by
    obtain ⟨v0, h0, n0, rfl, _⟩ := h 0 .i rfl
    obtain ⟨v1, h1, n1, rfl, _⟩ := h 1 .i rfl
    match r, hl with
    | [a, b], _ =>
      simp at h0 h1
      subst h0 h1
      exact ⟨(n0, n1), rfl⟩
end Go.Proofs.Ytailnilhhbjkmaa
