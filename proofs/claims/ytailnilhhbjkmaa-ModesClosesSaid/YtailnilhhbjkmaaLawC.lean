/- ModesCloses: the walk. What shuts all that is open behind a text is as the reference says, and it does so. -/
import Derived.Test.YtailnilhhbjkmaaClose2
namespace Go.Proofs.Ytailnilhhbjkmaa
open Go.RowKit
set_option linter.unusedVariables false
set_option linter.unusedSimpArgs false
theorem clo_take (st : Stk) (k : Nat) (x : UInt8 × Int) (h : st[k]? = some x) : clo (st.take (k + 1)) = clo (st.take k) ++ cloL x.1 := by
  obtain ⟨h1, h2⟩ := List.getElem?_eq_some_iff.1 h
  rw [List.take_succ_eq_append_getElem h1, h2]
  simp [clo]
set_option maxHeartbeats 2000000 in
theorem closes_1 (l l2 : List UInt8) (w : World) (st st2 : Stk) (c : List UInt8) (n : Nat) (hl0 : l.length ≤ 200) (hst : (rAt l l.length).1 = st) (hn : st.length = n) (hn1 : 1 ≤ n) (hn2 : n ≤ 201) (hc : clo st = c) (hcl : c.length ≤ 1000)
    (h2 : l ++ c = l2) (hl2 : l2.length ≤ 1000) (hst2 : (rAt l2 l2.length).1 = st2) (hs2 : st2.length = 1 ∨ (∃ p q, st2 = [(76, p), (84, q)]) ∧ c = []) :
    Calls Try.prog 9 #[.string ⟨l.toArray⟩] w fun e w' => e = .returned (.bool true) ∧ Below w.heap.size w w' := by
  have hgt : decide ((200 : Int) < (l.length : Int)) = false := by simp; omega
  have hv := rAt_v l l.length
  rw [hst] at hv
  have hcat : ByteArray.mk l.toArray ++ ByteArray.mk c.toArray = ⟨l2.toArray⟩ := by rw [ba_append, h2]
  have H := Lib.hid (And.intro hst (And.intro hn (And.intro hc (And.intro hv.all (And.intro hst2 (And.intro hs2 hcat))))))
  clear hst hn hc h2 hst2 hs2 hv hcat
  go_enter Try.func9, Try.ntmps9
  go_wp2_with (first
    | (go_at_call 10
       refine (awake_c _).mono ?_
       rintro e w1 ⟨rfl, hb1⟩)
    | (go_at_call 12
       refine (run_r l _ (by omega)).mono ?_
       rintro e w3 ⟨S3, A3, n3, k3, rfl, hx3, hb3⟩
       rw [H.out.1] at hx3
       have hS := hx3.1
       have hSl : S3.length = n := by rw [hS, rS_len, H.out.2.1]
       have HS := Lib.hid hS
       have H3 := Lib.hid (And.intro hx3 (hb1.trans (hb3.mono hb1.size)))
       clear hx3 hb3 hb1 hS))
  go_loop [4, 5] (fun v i => ∃ k : Nat, k ≤ n ∧ i = .int .i64 ((n : Int) - 1 - k) ∧ v = .string ⟨(clo (st.take k)).toArray⟩) (fun _ i => (intOf i + 1).toNat)
  case atStart => exact ⟨0, by omega, by simp, by simp [clo]⟩
  case round =>
    obtain ⟨k, hk, rfl, rfl⟩ := hrel
    by_cases hlt : k < n
    · obtain ⟨⟨d, p⟩, hx⟩ : ∃ x, st[k]? = some x := ⟨_, List.getElem?_eq_getElem (by have := H.out.2.1; omega)⟩
      have e1 := clo_take st k _ hx
      have hd : Val d = true := H.out.2.2.2.1 (d, p) (List.mem_of_getElem? hx)
      have k1 : (0 : Int) ≤ (n : Int) - 1 - k := by omega
      have k2 : (n : Int) - 1 - k < (n : Int) := by omega
      have k2' : (n : Int) - 1 - k < (S3.length : Int) := by omega
      have k3 : ((n : Int) - 1 - k).toNat = n - 1 - k := by omega
      have hSj : ∃ h : n - 1 - k < (ByteArray.mk S3.toArray).size, (ByteArray.mk S3.toArray)[n - 1 - k]'h = d := by
        have : S3[n - 1 - k]? = some d := by
          have hn := H.out.2.1
          rw [HS.out]; unfold rS
          rw [← List.map_reverse, List.getElem?_map, List.getElem?_reverse (by omega), show st.length - 1 - (n - 1 - k) = k by omega, hx]; rfl
        obtain ⟨h1, h2⟩ := List.getElem?_eq_some_iff.1 this
        exact ⟨h1, h2⟩
      obtain ⟨hSj1, hSj2⟩ := hSj
      have E := Lib.hid (And.intro e1 hd)
      have hlen : (clo (st.take k)).length ≤ 1000 := by have := clo_len (st.take k); rw [List.length_take] at this; omega
      have hlen2 := cloL_len d
      clear e1 hd hx
      go_wp2_with (go_at_call 22
                   refine (closer_r d _ E.out.2).mono ?_
                   rintro e w4 ⟨rfl, rfl⟩)
      exact ⟨⟨k + 1, by omega, by congr 1; omega, by rw [ba_append, E.out.1]⟩, by simp [intOf]; omega⟩
    · have e : clo (st.take k) = c := by have h := H.out; rw [List.take_of_length_le (by omega)]; exact h.2.2.1
      rw [e]
      have hkn : k = n := by omega
      have k1 : decide (0 ≤ (n : Int) - 1 - k) = false := by simp; omega
      clear e
      rcases H.out.2.2.2.2.2.1 with hA | ⟨⟨p, q, hB⟩, hcB⟩
      · have HQ := Lib.hid (And.intro hA hkn)
        clear hA hkn
        go_wp2_with (first
          | (go_at_call 23
             refine (closing_m l _ (by omega)).mono ?_
             rintro e w4 ⟨rfl, hb4⟩
             rw [H.out.1, H.out.2.2.1]
             have H4 := Lib.hid hb4
             clear hb4)
          | (go_at_call 11
             rw [H.out.2.2.2.2.2.2]
             with_reducible refine (run_m l2 _ (by omega)).mono ?_
             rintro e w5 ⟨g5, c5, rfl, hfr, hb5⟩
             rw [H.out.2.2.2.2.1] at hfr ⊢
             unfold Fr at hfr
             rw [HQ.out.1] at hfr ⊢
             skip
             have H5 := Lib.hid (And.intro hfr hb5)
             clear hfr hb5))
        go_ret
        refine ⟨?_, ?_⟩
        · rfl
        · have q3 := H3.out.2
          have q4 := (q3.alloc q3.size _).trans (H4.out.mono (by have := q3.size; simp; omega))
          exact q4.trans (H5.out.2.mono q4.size)
      · subst hcB
        have HQ := Lib.hid (And.intro (show st2.length = 2 by rw [hB]; rfl) (And.intro hB hkn))
        clear hB hkn
        go_wp2_with (first
          | (go_at_call 23
             refine (closing_m l _ (by omega)).mono ?_
             rintro e w4 ⟨rfl, hb4⟩
             rw [H.out.1, H.out.2.2.1]
             have H4 := Lib.hid hb4
             clear hb4)
          | (go_at_call 11
             rw [H.out.2.2.2.2.2.2]
             with_reducible refine (run_m l2 _ (by omega)).mono ?_
             rintro e w5 ⟨g5, c5, rfl, hfr, hb5⟩
             rw [H.out.2.2.2.2.1] at hfr ⊢
             unfold Fr at hfr
             rw [HQ.out.1] at hfr ⊢
             rw [HQ.out.2.1] at hfr
             have y0 := own_cell hfr 2 (.int .i64 12) rfl
             have H5 := Lib.hid (And.intro hfr hb5)
             clear hfr hb5))
        go_ret
        refine ⟨?_, ?_⟩
        · rfl
        · have q3 := H3.out.2
          have q4 := (q3.alloc q3.size _).trans (H4.out.mono (by have := q3.size; simp; omega))
          exact q4.trans (H5.out.2.mono q4.size)
set_option maxHeartbeats 1000000 in
theorem modesCloses_w (l : List UInt8) (w : World) (hm : l.length ≤ 9223372036854775807) :
    Calls Try.prog 9 #[.string ⟨l.toArray⟩] w fun e w' => e = .returned (.bool true) ∧ Below w.heap.size w w' := by
  by_cases hl : 200 < l.length
  · go_enter Try.func9, Try.ntmps9
    go_wp2_with (go_at_call 10; refine (awake_c _).mono ?_; rintro e w1 ⟨rfl, hb1⟩)
    go_ret
    exact ⟨rfl, hb1⟩
  · have h1 := rAt_len l l.length
    have h2 := clo_len (rAt l l.length).1
    have h3 := List.length_pos_iff.2 (rAt_bot l l.length).ne
    exact closes_1 l _ w _ _ _ _ (by omega) rfl rfl (by omega) (by omega) rfl (by omega) rfl (by rw [List.length_append]; omega) rfl (closes_law l)
end Go.Proofs.Ytailnilhhbjkmaa
