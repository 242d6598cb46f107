/- ModesAhead: the walk. At each place the machine's stack is that of the bytes ahead alone. -/
import Derived.Test.YtailnilhhbjkmaaLawA
namespace Go.Proofs.Ytailnilhhbjkmaa
open Go.RowKit
set_option linter.unusedVariables false
set_option linter.unusedSimpArgs false
theorem rAt_take (l : List UInt8) (i : Nat) : ∀ k, k ≤ i → rAt (l.take i) k = rAt l k
  | 0, _ => rfl
  | k + 1, h => by
    have e : (l.take i).getD k 0 = l.getD k 0 := by
      rw [List.getD_eq_getElem?_getD, List.getD_eq_getElem?_getD, List.getElem?_take, if_pos (by omega)]
    show rStep _ _ ((l.take i).getD k 0) _ = rStep _ _ (l.getD k 0) _
    rw [e, rAt_take l i k (by omega)]
theorem run_take (l : List UInt8) (k : Nat) (w : World) (hk : k ≤ l.length) (hl : l.length ≤ 900) : Calls Try.prog 12 #[.string ((ByteArray.mk l.toArray).extract 0 k)] w (Ro w (rAt l k).1 (rAt l k).2) := by
  have h := run_r (l.take k) w (by simp; omega)
  have e : (l.take k).length = k := by simp; omega
  rw [e, rAt_take l k k (Nat.le_refl _)] at h
  rw [ba_extract, List.drop_zero]
  exact h
theorem Mach.drew {w : World} {B b : Nat} {st : Stk} {f : Bool} {at_ : Int} (h : Mach w B b st f at_) : Mach w.drew B b st f at_ := h
/-- What holds at each round's head of ModesAhead. -/
def AhRel (w wr : World) (B b : Nat) (l : List UInt8) (k : Nat) : Prop := Mach wr B b (rAt l k).1 (rAt l k).2 k ∧ Below w.heap.size w wr ∧ w.heap.size ≤ B
set_option maxHeartbeats 2000000 in
theorem modesAhead_w (l : List UInt8) (w : World) (hm : l.length ≤ 9223372036854775807) :
    Calls Try.prog 4 #[.string ⟨l.toArray⟩] w fun e w' => e = .returned (.bool true) ∧ Below w.heap.size w w' := by
  by_cases hl : 60 < l.length
  · go_enter Try.func4, Try.ntmps4
    go_wp2_with (go_at_call 10; refine (awake_c _).mono ?_; rintro e w1 ⟨rfl, hb1⟩)
    go_ret
    exact ⟨rfl, hb1⟩
  · have hl0 : l.length ≤ 60 := by omega
    have hgt : decide ((60 : Int) < (l.length : Int)) = false := by simp; omega
    go_enter Try.func4, Try.ntmps4
    go_wp2_with (first
      | (go_at_call 10
         refine (awake_c _).mono ?_
         rintro e w1 ⟨rfl, hb1⟩)
      | (go_at_call 14
         refine (new_m _).mono ?_
         rintro e w2 ⟨b, rfl, hm2, hb2⟩
         have H2 := Lib.hid (And.intro hm2 (And.intro hb2 hb1))
         clear hm2 hb2 hb1))
    go_loopw [4] (fun i wr => ∃ k : Nat, k ≤ l.length + 1 ∧ i = .int .i64 k ∧ AhRel w wr w1.heap.size b l (min k l.length)) (fun i _ => l.length + 1 - (intOf i).toNat)
    case atStart =>
      obtain ⟨hm2, hb2, hb1⟩ := H2.out
      exact ⟨0, by omega, rfl, by rw [Nat.zero_min]; exact hm2, hb1.trans (hb2.mono hb1.size), hb1.size⟩
    case round =>
      obtain ⟨k, hk, rfl, hm, hb, hB⟩ := hrel
      by_cases hle : k ≤ l.length
      · rw [Nat.min_eq_left hle] at hm
        have hbot := rAt_bot l k
        have hv := rAt_v l k
        have hlen := rAt_len l k
        have HR := Lib.hid (And.intro hm (And.intro hb (And.intro hbot (And.intro hv hlen))))
        clear hm hb hbot hv hlen
        have hi0 : (0 : Int) ≤ (k : Int) := by omega
        have hi1 : (k : Int) ≤ (l.length : Int) := by omega
        go_wp2_with (first
          | (go_at_call 12
             refine (run_take l k _ hle (by omega)).mono ?_
             rintro e w3 ⟨S3, A3, n3, k3, rfl, hx3, hb3⟩
             have H3 := Lib.hid (And.intro hx3 hb3)
             clear hx3 hb3))
        obtain ⟨hx3, hb3⟩ := H3.out
        obtain rfl := hx3.2.1
        refine gen1 fun W hbW hkW hsW => ?_
        have hMW := (HR.out.1.below hb3).below hbW
        have hxW := hx3.next hbW
        obtain ⟨y0, y1, y2, z0, z1, z2⟩ := hkW.three
        have HW := Lib.hid (And.intro hMW (And.intro hxW (And.intro hkW (And.intro hb3 hbW))))
        clear hMW hxW hkW hb3 hbW hx3 hsW
        go_region_with (first
          | (go_at_call 15
             refine (frames_m w1.heap.size b _ _ _ _ HW.out.1.drew HR.out.2.2.1.ne (by have := HR.out.2.2.2.2; omega)).mono ?_
             rintro e w4 ⟨g, c, rfl, hfr, hb4⟩
             have kk4 := HW.out.2.2.1.drew.below hb4 HW.out.2.2.1.lt
             obtain ⟨y0, y1, y2, z0, z1, z2⟩ := kk4.three
             have H4 := Lib.hid (And.intro hfr (And.intro hb4 kk4))
             clear hfr hb4 kk4)
          | (go_at_call 13
             refine (same_c (rAt l k).1 S3 A3 g 0 _ k3 c _ _ (Rd.of_own H4.out.1) (HW.out.2.1.next (Below.trans (by go_grown) H4.out.2.1)) HR.out.2.2.2.1 (by have := HR.out.2.2.2.2; omega)).mono ?_
             rintro e w5 ⟨rfl, hb5⟩
             have q5 : Below W.heap.size W w5 := (Below.trans (by go_grown) H4.out.2.1).trans (hb5.mono H4.out.2.1.size)
             have kk5 := H4.out.2.2.below hb5 H4.out.2.2.lt
             obtain ⟨y0, y1, y2, z0, z1, z2⟩ := kk5.three
             have H5 := Lib.hid q5
             clear hb5 q5 kk5)
          | (go_at_call 16
             refine (fresh_m w1.heap.size b _ _ _ _ (HW.out.1.below H5.out) HR.out.2.2.1.ne).mono ?_
             rintro e w6 ⟨rfl, rfl⟩))
        all_goals (
          have q5 : Below w.heap.size w w5 := below_next (below_next (below_next HR.out.2.1 HW.out.2.2.2.1) HW.out.2.2.2.2) H5.out
          have hm5 : Mach w5 w1.heap.size b (rAt l k).1 (rAt l k).2 k := HW.out.1.below H5.out
          have H6 := Lib.hid (And.intro q5 hm5)
          clear q5 hm5
          by_cases hlt : k < l.length)
        all_goals go_wp2_with (first
          | (go_at_call 17
             refine (feed_m w1.heap.size b _ _ _ _ _ H6.out.2 HR.out.2.2.1 HR.out.2.2.2.1 (by have := HR.out.2.2.2.2; omega) (by omega) (by omega)).mono ?_
             rintro e w7 ⟨rfl, hm7, hb7⟩
             have H7 := Lib.hid (And.intro hm7 hb7)
             clear hm7 hb7))
        all_goals first
          | (obtain ⟨hm7, hb7⟩ := H7.out
             rw [← rAt_succ l k hlt] at hm7
             exact ⟨⟨k + 1, by omega, by go_num, by rw [Nat.min_eq_left (by omega)]; simpa using hm7, H6.out.1.trans (hb7.mono hB), hB⟩, by simp [intOf]; omega⟩)
          | (have e : k = l.length := by omega
             exact ⟨⟨k + 1, by omega, by go_num, by rw [Nat.min_eq_right (by omega), ← e]; exact H6.out.2, H6.out.1, hB⟩, by simp [intOf]; omega⟩)
      · go_wp2
        go_ret
        exact ⟨rfl, hb⟩
end Go.Proofs.Ytailnilhhbjkmaa
