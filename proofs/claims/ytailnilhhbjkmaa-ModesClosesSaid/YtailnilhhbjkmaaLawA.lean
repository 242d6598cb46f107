/- What all laws of chapter 6 ask first (awake), and ModesRun: the walk. -/
import Derived.Test.YtailnilhhbjkmaaShow
import Derived.Test.YtailnilhhbjkmaaRefM3
namespace Go.Proofs.Ytailnilhhbjkmaa
open Go.RowKit
set_option linter.unusedVariables false
set_option linter.unusedSimpArgs false
def flOf (st : Stk) : List (Int × Int) := st.reverse.map fun x => (modeOf x.1, x.2)
theorem fcells_ifl (st : Stk) : fcells st = ifl (flOf st) := by unfold fcells ifl flOf; rw [List.flatMap_map]
theorem flOf_len (st : Stk) : (flOf st).length = st.length := by simp [flOf]
theorem awake_c (w : World) : Calls Try.prog 10 #[] w fun e w' => e = .returned (.bool true) ∧ Below w.heap.size w w' := by
  have hlen : (rAt [34, 97, 36, 40, 98, 32, 39, 99] 8).1.length = 4 := by decide +kernel
  have hsh : shL (flOf (rAt [34, 97, 36, 40, 98, 32, 39, 99] 8).1) = [84, 68, 67, 83] := by decide +kernel
  have HS := Lib.hid (And.intro hlen hsh)
  clear hlen hsh
  go_enter Try.func10, Try.ntmps10
  go_wp2_with (first
    | (go_at_call 11
       refine (run_m [34, 97, 36, 40, 98, 32, 39, 99] _ (by decide)).mono ?_
       rintro e w1 ⟨g, c, rfl, hfr, hb1⟩
       have H1 := Lib.hid (And.intro hfr hb1)
       clear hfr hb1)
    | (go_at_call 18
       refine (show_c (flOf (rAt [34, 97, 36, 40, 98, 32, 39, 99] 8).1) _ _ _ _ (by rw [← fcells_ifl]; exact Rd.of_own H1.out.1) (by rw [flOf_len]) (by have := HS.out.1; omega)).mono ?_
       rintro e w2 ⟨rfl, hb2⟩
       have H2 := Lib.hid hb2
       clear hb2
       rw [HS.out.2]))
  go_ret
  exact ⟨rfl, H1.out.2.trans (H2.out.mono H1.out.2.size)⟩
set_option maxHeartbeats 1000000 in
theorem modesRun_w (l : List UInt8) (w : World) (hm : l.length ≤ 9223372036854775807) :
    Calls Try.prog 3 #[.string ⟨l.toArray⟩] w fun e w' => e = .returned (.bool true) ∧ Below w.heap.size w w' := by
  by_cases hl : 200 < l.length
  · go_enter Try.func3, Try.ntmps3
    go_wp2_with (go_at_call 10; refine (awake_c _).mono ?_; rintro e w1 ⟨rfl, hb1⟩)
    go_ret
    exact ⟨rfl, hb1⟩
  · have hl0 : l.length ≤ 200 := by omega
    go_enter Try.func3, Try.ntmps3
    go_wp2_with (first
      | (go_at_call 10
         refine (awake_c _).mono ?_
         rintro e w1 ⟨rfl, hb1⟩)
      | (go_at_call 11
         refine (run_m l _ (by omega)).mono ?_
         rintro e w2 ⟨g, c, rfl, hfr, hb2⟩
         have H2 := Lib.hid (And.intro hfr (hb1.trans (hb2.mono hb1.size)))
         clear hfr hb2)
      | (go_at_call 12
         refine (run_r l _ (by omega)).mono ?_
         rintro e w3 ⟨S3, A3, n3, k3, rfl, hx3, hb3⟩
         have H3 := Lib.hid (And.intro hx3 hb3)
         clear hx3 hb3)
      | (go_at_call 13
         obtain ⟨hx3, hb3⟩ := H3.out
         obtain rfl := hx3.2.1
         refine (same_c (rAt l l.length).1 S3 A3 g 0 _ k3 c _ _ (((Rd.of_own H2.out.1).next hb3).next (by go_grown)) (hx3.next (by go_grown)) (rAt_v l l.length) (by have := rAt_len l l.length; omega)).mono ?_
         rintro e w4 ⟨rfl, hb4⟩
         obtain ⟨y0, y1, y2, z0, z1, z2⟩ := ((Bk.new _ _ _).below hb4 (by simp)).three
         have H4 := Lib.hid hb4
         clear hb4 hx3 hb3))
    go_ret
    refine ⟨ret_bool (by simp), ?_⟩
    have q3 := H2.out.2.trans (H3.out.2.mono H2.out.2.size)
    exact (q3.alloc q3.size _).trans (H4.out.mono (by have := q3.size; simp; omega))
end Go.Proofs.Ytailnilhhbjkmaa
