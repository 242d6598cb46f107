/- Where a word ends: modes.End. -/
import Derived.Test.YtihmjejcikpibaaDoorEnd
namespace Go.Proofs.YtihmjejcikpibaaDoor
open Go.RowKit
set_option linter.unusedVariables false
set_option linter.unusedSimpArgs false
set_option maxRecDepth 100000
theorem endOut (l : List UInt8) (x : Int) (w : World) (hl : l.length ≤ 100000) (hx : x < 0 ∨ (l.length : Int) < x) :
    Calls Tryd.prog 36 #[.string ⟨l.toArray⟩, .int .i64 x] w fun e w' => e = .returned (.int .i64 (-1)) ∧ Below w.heap.size w w' := by
  by_cases h0 : x < 0
  · have t0 : decide (x < 0) = true := by simpa using h0
    go_enter Tryd.func36, Tryd.ntmps36
    go_wp2
    go_ret
    exact ⟨rfl, Below.refl _ _⟩
  · have t0 : decide (x < 0) = false := by simpa using h0
    have t1 : (l.length : Int) < x := by omega
    have t2 : decide ((l.length : Int) < x) = true := by simpa using t1
    go_enter Tryd.func36, Tryd.ntmps36
    go_wp2
    go_ret
    exact ⟨rfl, Below.refl _ _⟩
theorem rAt_drop (l : List UInt8) (a k n : Nat) (hn : a + k = n) (hlt : n < l.length) : rAt (l.drop a) (k + 1) = rStep (rAt (l.drop a) k).1 (rAt (l.drop a) k).2 ((ByteArray.mk l.toArray)[n]'hlt) k := by
  subst hn
  show rStep _ _ ((l.drop a).getD k 0) _ = _
  rw [ba_get, List.getD_eq_getElem?_getD, List.getElem?_drop, List.getElem?_eq_getElem hlt]
  rfl
set_option maxHeartbeats 1000000 in
theorem end_m (l : List UInt8) (a : Nat) (w : World) (hl : l.length ≤ 50000) (ha : a ≤ l.length) :
    Calls Tryd.prog 36 #[.string ⟨l.toArray⟩, .int .i64 (a : Int)] w fun e w' => e = .returned (.int .i64 ((a + endL l a : Nat) : Int)) ∧ Below w.heap.size w w' := by
  have t0 : decide ((a : Int) < 0) = false := by simp
  have t1 : decide ((l.length : Int) < (a : Int)) = false := by simp; omega
  go_enter Tryd.func36, Tryd.ntmps36
  go_wp2_with (first
    | (go_at_call 44
       refine (new_m _).mono ?_
       rintro e w1 ⟨b, rfl, hm1, hb1⟩
       have H1 := Lib.hid (And.intro hm1 hb1)
       clear hm1 hb1))
  go_loopw [1] (fun i wr => ∃ k : Nat, a + k ≤ l.length ∧ i = .int .i64 ((a + k : Nat) : Int) ∧ Mach wr w.heap.size b (rAt (l.drop a) k).1 (rAt (l.drop a) k).2 k ∧ Below w.heap.size w wr ∧ endF (endStop l a) (l.length - a - k) k = endL l a) (fun i _ => l.length - (intOf i).toNat)
  case atStart => exact ⟨0, by omega, rfl, H1.out.1, H1.out.2, rfl⟩
  case round =>
    obtain ⟨k, hk, rfl, hm, hb, he⟩ := hrel
    have hbot := rAt_bot (l.drop a) k
    have hv := rAt_v (l.drop a) k
    have hlen := rAt_len (l.drop a) k
    have HR := Lib.hid (And.intro hm (And.intro hb (And.intro hbot (And.intro hv (And.intro he hlen)))))
    clear hm hb hbot hv he hlen
    generalize hn : a + k = n at *
    have HN := Lib.hid hn
    clear hn
    by_cases hlt : n < l.length
    · have hi0 : (0 : Int) ≤ (n : Int) := by omega
      have hi1 : (n : Int) < (l.length : Int) := by omega
      have hstop : endStop l a k = endB (rAt (l.drop a) k).1 ((ByteArray.mk l.toArray)[n]'hlt) := by
        unfold endStop
        rw [HN.out, ba_get, List.getD_eq_getElem?_getD, List.getElem?_eq_getElem hlt]
        rfl
      cases hs : endStop l a k
      · have HS := Lib.hid (And.intro (hstop.symm.trans hs) hs)
        clear hs hstop
        go_wp2_with (first
          | (go_at_call 45
             refine (ends_m w.heap.size b _ _ _ _ _ HR.out.1 HR.out.2.2.1.ne).mono ?_
             rintro e w2 ⟨rfl, rfl⟩
             rw [HS.out.1])
          | (go_at_call 46
             refine (feed_m w.heap.size b _ _ _ _ _ HR.out.1 HR.out.2.2.1 HR.out.2.2.2.1 (by have := HR.out.2.2.2.2.2; have := HN.out; omega) (by omega) (by have := HN.out; omega)).mono ?_
             rintro e w2 ⟨rfl, hm2, hb2⟩
             have H2 := Lib.hid (And.intro hm2 hb2)
             clear hm2 hb2))
        obtain ⟨hm2, hb2⟩ := H2.out
        have hn := HN.out
        have e : rAt (l.drop a) (k + 1) = rStep (rAt (l.drop a) k).1 (rAt (l.drop a) k).2 ((ByteArray.mk l.toArray)[n]'hlt) k := rAt_drop l a k n hn hlt
        rw [← e] at hm2
        refine ⟨⟨k + 1, by omega, by rw [← hn]; go_num, by simpa using hm2, HR.out.2.1.trans hb2.b, ?_⟩, by simp [intOf]; omega⟩
        rw [show l.length - a - (k + 1) = l.length - a - k - 1 by omega, ← endF_go HS.out.2 (by omega)]
        exact HR.out.2.2.2.2.1
      · have HS := Lib.hid (And.intro (hstop.symm.trans hs) hs)
        clear hs hstop
        go_wp2_with (first
          | (go_at_call 45
             refine (ends_m w.heap.size b _ _ _ _ _ HR.out.1 HR.out.2.2.1.ne).mono ?_
             rintro e w2 ⟨rfl, rfl⟩
             rw [HS.out.1]))
        go_ret
        refine ⟨ret_int ?_, HR.out.2.1⟩
        rw [← HR.out.2.2.2.2.1, endF_stop HS.out.2, HN.out]
    · go_wp2
      go_ret
      refine ⟨ret_int ?_, HR.out.2.1⟩
      have hn := HN.out
      rw [← HR.out.2.2.2.2.1, show l.length - a - k = 0 by omega]
      show (n : Int) = ((a + k : Nat) : Int)
      rw [hn]
end Go.Proofs.YtihmjejcikpibaaDoor
