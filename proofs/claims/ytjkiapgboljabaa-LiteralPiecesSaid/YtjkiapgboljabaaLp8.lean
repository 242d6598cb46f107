/- LiteralPieces: the walk. The pieces of any text are as the document says. -/
import Derived.Test.YtjkiapgboljabaaAw8
import Derived.Test.YtjkiapgboljabaaPr8
namespace Go.Proofs.Ytjkiapgboljabaa
open Go.RowKit
set_option linter.unusedVariables false
set_option linter.unusedSimpArgs false
set_option maxRecDepth 100000
set_option maxHeartbeats 2000000 in
theorem literalPieces_w (l : List UInt8) (w : World) (hm : l.length ≤ 9223372036854775807) :
    Calls Try.prog 13 #[.string ⟨l.toArray⟩] w fun e w' => e = .returned (.bool true) ∧ Below w.heap.size w w' := by
  by_cases hl : 100 < l.length
  · have k1 : decide ((100 : Int) < (l.length : Int)) = true := by simp; omega
    go_enter Try.func13, Try.ntmps13
    go_wp2_with (go_at_call 31; refine (awake8_c _).mono ?_; rintro e w1 ⟨rfl, hb1⟩)
    go_ret
    exact ⟨rfl, hb1⟩
  · have k1 : decide ((100 : Int) < (l.length : Int)) = false := by simp; omega
    have hl0 : l.length ≤ 100 := by omega
    obtain ⟨L, hL⟩ : ∃ L, L = pcsL l := ⟨_, rfl⟩
    have hpl : L.length ≤ 2 * l.length := by rw [hL]; exact pcsL_len l
    have HL := Lib.hid hL
    clear hL
    go_enter Try.func13, Try.ntmps13
    go_wp2_with (first
      | (go_at_call 31
         refine (awake8_c _).mono ?_
         rintro e w1 ⟨rfl, hb1⟩)
      | (go_at_call 36
         refine (pieces_m l _ (by omega)).mono ?_
         rintro e w2 ⟨v, rfl, ho, hb2⟩
         rw [← HL.out] at ho
         obtain ⟨A, n, c, rfl⟩ := own_form' ho
         obtain rfl := own_len ho
         have H2 := Lib.hid (And.intro ho (hb1.trans (hb2.mono hb1.size)))
         clear ho hb1 hb2)
      | (go_at_call 37
         refine (pieces_r l _ (by omega) L (by rw [HL.out, pcsR_L])).mono ?_
         rintro e w3 ⟨v, rfl, ho, hb3⟩
         obtain ⟨A3, n3, c3, rfl⟩ := own_form' ho
         obtain rfl := own_len ho
         have H3 := Lib.hid (And.intro ho (And.intro (own_below H2.out.1 hb3) (H2.out.2.trans (hb3.mono H2.out.2.size))))
         clear ho hb3))
    go_loopw [5] (fun i wr => ∃ k : Nat, k ≤ L.length ∧ i = .int .i64 k ∧ Below w3.heap.size w3 wr) (fun i _ => L.length - (intOf i).toNat)
    case atStart => exact ⟨0, by omega, rfl, Below.refl _ _⟩
    case round =>
      obtain ⟨k, hk, rfl, hb⟩ := hrel
      by_cases hlt : k < L.length
      · have u1 : (k : Int) < (L.length : Int) := by omega
        have u2 : (0 : Int) ≤ (k : Int) := by omega
        obtain ⟨x, hx⟩ : ∃ x, L[k]? = some x := ⟨_, List.getElem?_eq_getElem hlt⟩
        have r2 := Rd.of_own (own_below H3.out.2.1 hb)
        have r3 := Rd.of_own (own_below H3.out.1 hb)
        obtain ⟨g2, o2, rfl, _, y0, y1, y2⟩ := rd_pc r2 hx rfl
        obtain ⟨g3, o3, rfl, _, z0, z1, z2⟩ := rd_pc r3 hx rfl
        have HB := Lib.hid hb
        clear hb r2 r3 hx
        go_wp2_with fail
        go_quiet (fail)
        go_wp2_with fail
        exact ⟨⟨k + 1, by omega, by go_num, below_drewN' HB.out _⟩, by simp [intOf]; omega⟩
      · obtain rfl : k = L.length := by omega
        have HB := Lib.hid hb
        clear hb
        go_wp2_with fail
        go_ret
        exact ⟨rfl, H3.out.2.2.trans (HB.out.mono H3.out.2.2.size)⟩
end Go.Proofs.Ytjkiapgboljabaa
