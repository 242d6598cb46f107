/- quillwortref08.Bare, Expands, Pattern: over the pieces. -/
import Derived.Test.YtffngggdelmkpaaGreatDoorBv8
import Derived.Test.YtffngggdelmkpaaGreatDoorPr8
namespace Go.Proofs.YtffngggdelmkpaaGreatDoor
open Go.RowKit
set_option linter.unusedVariables false
set_option linter.unusedSimpArgs false
set_option maxRecDepth 100000
set_option maxHeartbeats 2000000 in
theorem bare_r (l : List UInt8) (w : World) (hl : l.length ≤ 900) :
    Calls Tryz.prog 47 #[.string ⟨l.toArray⟩] w fun e w' => e = .returned (.string ⟨(txL (pcsL l)).toArray⟩) ∧ Below w.heap.size w w' := by
  obtain ⟨L, hL⟩ : ∃ L, L = pcsL l := ⟨_, rfl⟩
  have hpl : L.length ≤ 2 * l.length := by rw [hL]; exact pcsL_len l
  have hx9 : ∀ x ∈ L, x.tx.length ≤ 900 := fun x hx => Nat.le_trans (pcsL_tx l x (by rw [← hL]; exact hx)) hl
  have hT : ∀ k, (txL (L.take k)).length ≤ 2000000 := fun k => by have := txL_tlen L k 900 hx9; have := Nat.mul_le_mul_right 900 (show L.length ≤ 1800 by omega); omega
  rw [← hL]
  have HL := Lib.hid (And.intro hL (And.intro hx9 hT))
  clear hL hx9 hT
  go_enter Tryz.func47, Tryz.ntmps47
  go_wp2_with (
    (go_at_call 76
     refine (pieces_r l _ hl L (by rw [HL.out.1, pcsR_L])).mono ?_
     rintro e w3 ⟨v, rfl, ho, hb3⟩
     obtain ⟨A, n3, c, rfl⟩ := own_form' ho
     obtain rfl := own_len ho
     have H3 := Lib.hid (And.intro ho hb3)
     clear ho hb3))
  go_loopw [5, 4] (fun i s wr => ∃ k : Nat, k ≤ L.length ∧ i = .int .i64 k ∧ s = .string ⟨(txL (L.take k)).toArray⟩ ∧ Below w3.heap.size w3 wr) (fun i _ _ => L.length - (intOf i).toNat)
  case atStart => exact ⟨0, by omega, rfl, rfl, Below.refl _ _⟩
  case round =>
    obtain ⟨k, hk, rfl, rfl, hb⟩ := hrel
    by_cases hlt : k < L.length
    · have u1 : (k : Int) < (L.length : Int) := by omega
      have u2 : (0 : Int) ≤ (k : Int) := by omega
      obtain ⟨x, hx⟩ : ∃ x, L[k]? = some x := ⟨_, List.getElem?_eq_getElem hlt⟩
      obtain ⟨g, o, rfl, _, y0, y1, y2⟩ := rd_pc (Rd.of_own (own_below H3.out.1 hb)) hx rfl
      obtain ⟨T, hT⟩ : ∃ T, T = txL (L.take k) := ⟨_, rfl⟩
      have hTl : T.length ≤ 2000000 := by rw [hT]; exact HL.out.2.2 k
      have hxl := HL.out.2.1 x (List.mem_of_getElem? hx)
      have e1 := txL_take hx
      rw [← hT] at e1 ⊢
      have hcat : ByteArray.mk T.toArray ++ ByteArray.mk x.tx.toArray = ⟨(T ++ x.tx).toArray⟩ := ba_append _ _
      have hclen : ¬ 9223372036854775807 < T.length + x.tx.length := by omega
      have HB := Lib.hid (And.intro hb e1)
      clear hb hx e1 hT
      go_wp2_with fail
      exact ⟨⟨k + 1, by omega, by go_num, by rw [HB.out.2], HB.out.1⟩, by simp [intOf]; omega⟩
    · obtain rfl : k = L.length := by omega
      rw [List.take_of_length_le (Nat.le_refl _)]
      have HB := Lib.hid hb
      clear hb
      go_wp2_with fail
      go_ret
      exact ⟨rfl, H3.out.2.trans (HB.out.mono H3.out.2.size)⟩
end Go.Proofs.YtffngggdelmkpaaGreatDoor
