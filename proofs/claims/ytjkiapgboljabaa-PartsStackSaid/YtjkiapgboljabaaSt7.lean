/- PartsStack: the walk. -/
import Derived.Test.YtjkiapgboljabaaSt0
import Derived.Test.YtjkiapgboljabaaN7
namespace Go.Proofs.Ytjkiapgboljabaa
open Go.RowKit
set_option linter.unusedVariables false
set_option linter.unusedSimpArgs false
set_option maxRecDepth 100000
theorem hkx_next {w w' : World} {g : Nat} {t : TypeId} {cs : Array Value} (h : Bk w g t cs) (hb : Below w.heap.size w w') : Bk w' g t cs := h.below hb h.lt
set_option maxHeartbeats 4000000 in
theorem partsStack_w (l : List UInt8) (w : World) (hm : l.length ≤ 9223372036854775807) :
    Calls Try.prog 4 #[.string ⟨l.toArray⟩] w fun e w' => e = .returned (.bool true) ∧ Below w.heap.size w w' := by
  by_cases hl : 60 < l.length
  · have k1 : decide ((60 : Int) < (l.length : Int)) = true := by simp; omega
    go_enter Try.func4, Try.ntmps4
    go_wp2_with (go_at_call 17; refine (awake7_c _).mono ?_; rintro e w1 ⟨rfl, hb1⟩)
    go_ret
    exact ⟨rfl, hb1⟩
  · have k1 : decide ((60 : Int) < (l.length : Int)) = false := by simp; omega
    have hl0 : l.length ≤ 60 := by omega
    obtain ⟨i0, hi0, hz0, hz1, hz2⟩ := info_parts Try.infoI
    go_enter Try.func4, Try.ntmps4
    go_wp2_with (first
      | (go_at_call 17
         refine (awake7_c _).mono ?_
         rintro e w1 ⟨rfl, hb1⟩)
      | (go_at_call 18
         refine (of_m l _ (by omega)).mono ?_
         rintro e w2 ⟨v, rfl, ho, hb2⟩
         obtain ⟨A, n, c, rfl⟩ := own_form' ho
         obtain rfl := own_len ho
         have H := Lib.hid (And.intro ho (hb1.trans (hb2.mono hb1.size)))
         clear ho hb1 hb2))
    have hpl := parts_len l
    obtain ⟨L, hL⟩ : ∃ L, L = partsL l := ⟨_, rfl⟩
    have HL := Lib.hid hL
    rw [← hL] at hpl H ⊢
    clear hL
    go_loopw [4] (fun i wr => ∃ k : Nat, k ≤ l.length + 1 ∧ i = .int .i64 k ∧ Below w2.heap.size w2 wr) (fun i _ => l.length + 1 - (intOf i).toNat)
    case atStart => exact ⟨0, by omega, rfl, Below.refl _ _⟩
    case round =>
      obtain ⟨k, hk, rfl, hb⟩ := hrel
      have HB := Lib.hid hb
      clear hb
      by_cases hle : k ≤ l.length
      · have u1 : (k : Int) ≤ (l.length : Int) := by omega
        have u2 : (0 : Int) ≤ (k : Int) := by omega
        have hst := stack_law l k hle (arB k) (arB_iff k)
        rw [← HL.out] at hst
        have hfl := rAt_len l k
        have HS := Lib.hid hst
        clear hst
        go_upto_region 10 with (first
          | (go_at_call 19
             refine (run_take l k _ hle (by omega)).mono ?_
             rintro e w3 ⟨S3, A3, n3, k3, rfl, hx3, hb3⟩
             have H3 := Lib.hid (And.intro hx3 hb3)
             clear hx3 hb3))
        obtain ⟨hx3, hb3⟩ := H3.out
        obtain ⟨hn3, hs3, _, _⟩ := hx3.bds
        have hn4 : n3 = (pls (FT l k)).length + 1 := by rw [hn3, ← rP_len, rP_FT]; rfl
        refine gen1 fun W hbW hkW hsW => ?_
        have hxW := hx3.next hbW
        have hbb := HB.out.trans ((hb3.trans (hbW.mono hb3.size)).mono HB.out.size)
        have HW := Lib.hid (And.intro hkW (And.intro hxW hbb))
        clear hbW hkW hxW hbb hx3 hb3 hsW
        go_wp2_with (
          (go_at_call 20
           with_reducible refine (around_m L k c L.length A _ (by omega) rfl (Rd.of_own (own_below H.out.1 HW.out.2.2))).mono ?_
           rintro e w4 ⟨va, rfl, hoa, hb4⟩
           obtain ⟨A4, n4, c4, rfl⟩ := own_form' hoa
           obtain rfl := own_len hoa
           have H4 := Lib.hid (And.intro hoa (And.intro (HW.out.2.2.trans (hb4.mono HW.out.2.2.size)) (And.intro (HW.out.1.below hb4 HW.out.1.lt) (HW.out.2.1.next hb4))))
           clear hoa hb4))
        obtain ⟨a, ha⟩ : ∃ a, a = pkL (arB k) L := ⟨_, rfl⟩
        have HA := Lib.hid ha
        rw [← ha] at H4 ⊢
        clear ha
        have hal : a.length ≤ L.length := by rw [HA.out]; exact pkF_len _ _ _
        go_loopw [8, 7] (fun j fv wx => ∃ (j' : Nat) (v : Value), j' ≤ a.length ∧ j = .int .i64 j' ∧ fv = v ∧ wx.ownsRow w4.heap.size 3 1 v (frJ L a j').length ((frJ L a j').map (.int .i64)) ∧ Below w4.heap.size w4 wx) (fun j _ _ => a.length - (intOf j).toNat)
        case atStart => exact ⟨0, _, by omega, rfl, rfl, World.ownsRow_nil _ _ _ _, Below.refl _ _⟩
        case round =>
          obtain ⟨j, v, hj, rfl, rfl, hof, hbf⟩ := hrel
          obtain ⟨A5, n5, c5, rfl⟩ := own_form' hof
          obtain rfl := own_len hof
          have hfj : (frJ L a j).length ≤ j := by unfold frJ; rw [List.length_map]; exact Nat.le_trans (List.length_filter_le _ _) (by rw [List.length_take]; omega)
          obtain ⟨wo, rfl⟩ : ∃ wo : World, wo = wr := ⟨_, rfl⟩
          by_cases hja : j < a.length
          · have v1 : (j : Int) < (a.length : Int) := by omega
            have v2 : (0 : Int) ≤ (j : Int) := by omega
            obtain ⟨m, hm0⟩ : ∃ m, a[j]? = some m := ⟨_, List.getElem?_eq_getElem hja⟩
            have hmL : m < L.length := pkL_mem (P := arB k) (by rw [← HA.out]; exact List.mem_of_getElem? hm0)
            obtain ⟨q, hq⟩ : ∃ q, L[m]? = some q := ⟨_, List.getElem?_eq_getElem hmL⟩
            have oa := own_below H4.out.1 hbf
            have ol := own_below H.out.1 (H4.out.2.1.trans (hbf.mono H4.out.2.1.size))
            obtain ⟨ga, rfl⟩ := own_at oa (by omega)
            obtain ⟨gl, rfl⟩ := own_at ol (by omega)
            have y0 := own_cell oa _ _ (ncells_get hm0)
            obtain ⟨x0, x1, _, _, _⟩ := pcells_at ol hq
            have v3 : (m : Int) < (L.length : Int) := by omega
            have v4 : (0 : Int) ≤ (m : Int) := by omega
            have t1 : decide ((m : Int) < 0) = false := by simp
            have t2 : decide ((L.length : Int) ≤ (m : Int)) = false := by simp; omega
            have hs := frJ_succ hm0 hq
            have HF := Lib.hid (And.intro hof (And.intro hbf hs))
            clear hof hbf hs oa ol hm0 hq
            by_cases hq12 : q.mode = 12
            · have t3 : (q.mode == 12) = true := by simpa using hq12
              have HQ := Lib.hid t3
              clear hq12
              go_wp2_with fail
              refine ⟨⟨j + 1, _, by omega, by go_num, rfl, ?_, HF.out.2.1⟩, by simp [intOf]; omega⟩
              rw [HF.out.2.2, if_pos HQ.out]
              exact HF.out.1
            · have t3 : (q.mode == 12) = false := by simpa using hq12
              have HQ := Lib.hid t3
              clear hq12
              go_wp2_with (
                (at_builtin
                 refine wpList_append_rd rfl (.tmp 62) (.tmp 71) 28 rfl w4.heap.size 3 i0 _ 1 8 Try.underlying28 hi0 hz0 hz1 hz2 rfl (by decide) (.slice A5 (frJ L a j).length c5) (frJ L a j).length ((frJ L a j).map (.int .i64)) rfl (HF.out.1.alloc _) (.slice (some ⟨wo.heap.size, 0, none⟩) 1 1) 1 (wo.heap.size + 1) [.int .i64 q.fr] rfl (rd_new wo [.int .i64 q.fr] 3 1 1 rfl (by omega)) (by intro u hu; simp at hu; subst hu; rfl) (by unfold maxLen; omega) (by omega) (by have := HF.out.2.1.size; simp; omega) ?_
                 intro v6 w6 hown6 hg6 hv6
                 have hbel6 : Below w4.heap.size w4 w6 := (HF.out.2.1.alloc (by have := HF.out.2.1.size; omega) _).grown hg6 (by have := HF.out.2.1.size; simp; omega) (fun j hj => (HF.out.1.lt j hj).1)
                 have H6 := Lib.hid (And.intro hown6 hbel6)
                 clear hown6 hg6 hv6 hbel6))
              refine ⟨⟨j + 1, _, by omega, by go_num, rfl, ?_, H6.out.2⟩, by simp [intOf]; omega⟩
              rw [HF.out.2.2, if_neg (by rw [HQ.out]; simp)]
              simpa using H6.out.1
          · obtain rfl : j = a.length := by omega
            obtain ⟨F, hF⟩ : ∃ F, F = frJ L a a.length := ⟨_, rfl⟩
            obtain ⟨X, hX⟩ : ∃ X, X = pls (FT l k) := ⟨_, rfl⟩
            have hFF : F = X.filter (fun p => !dolF L p) := by rw [hF, hX, ← HS.out, HA.out]; exact frJ_all _ _
            rw [← hF] at hof hfj ⊢
            rw [← hX] at hn4
            have hRP : rP (rAt l k).1 = 0 :: X := by rw [rP_FT, hX]
            have HF := Lib.hid (And.intro hof (And.intro hbf (And.intro hFF hRP)))
            clear hof hbf hF hFF hX hRP
            have hX60 : X.length ≤ 60 := by omega
            subst hn4
            clear hn3 hs3
            have hwx := hkx_next H4.out.2.2.1 HF.out.2.1
            obtain ⟨_, y1, _, _, _, _⟩ := hwx.three
            have HK := Lib.hid hwx
            clear hwx
            go_wp2_with fail
            go_loopw [10, 9] (fun i s wx => ∃ t : Nat, t ≤ X.length ∧ i = .int .i64 ((t + 1 : Nat) : Int) ∧ s = .int .i64 (((X.take t).filter (fun p => !dolF L p)).length : Int) ∧ Below wo.heap.size wo wx) (fun i _ _ => X.length + 1 - (intOf i).toNat)
            case atStart => exact ⟨0, by omega, rfl, rfl, Below.refl _ _⟩
            case round =>
              obtain ⟨t, ht, rfl, rfl, hb⟩ := hrel
              obtain ⟨wp, rfl⟩ : ∃ wp : World, wp = wr := ⟨_, rfl⟩
              have hwx := hkx_next HK.out hb
              obtain ⟨_, y1, _, _, _, _⟩ := hwx.three
              have HB4 := Lib.hid (And.intro hb hwx)
              clear hb hwx
              by_cases htX : t < X.length
              · have v1 : ((t + 1 : Nat) : Int) < ((X.length + 1 : Nat) : Int) := by omega
                have v2 : (0 : Int) ≤ ((t + 1 : Nat) : Int) := by omega
                obtain ⟨p, hp⟩ : ∃ p, X[t]? = some p := ⟨_, List.getElem?_eq_getElem htX⟩
                have HP := Lib.hid hp
                clear hp
                go_wp2_with fail
                go_loopw [12, 11] (fun i d wx => ∃ u : Nat, u ≤ L.length ∧ i = .int .i64 u ∧ d = .bool (dolK L p u) ∧ Below wp.heap.size wp wx) (fun i _ _ => L.length - (intOf i).toNat)
                case atStart => exact ⟨0, by omega, rfl, rfl, Below.refl _ _⟩
                case round =>
                  obtain ⟨u, hu, rfl, rfl, hb⟩ := hrel
                  have hbo := HB4.out.1.trans (hb.mono HB4.out.1.size)
                  have hwx := hkx_next HB4.out.2 hb
                  obtain ⟨_, y1, _, _, _, _⟩ := hwx.three
                  have hxr := (H4.out.2.2.2.next (HF.out.2.1.trans (hbo.mono HF.out.2.1.size))).2.2.rd
                  obtain ⟨gp, op, rfl, hgp, hcp⟩ := rd_at hxr (by omega)
                  have y2 := hcp (t + 1) (.int .i64 p) (by rw [HF.out.2.2.2, List.map_cons, List.getElem?_cons_succ, List.getElem?_map, HP.out]; rfl)
                  have hgw : ¬ gp = wr.heap.size := by omega
                  have HB5 := Lib.hid (And.intro hb hwx)
                  clear hxr hcp hb hwx
                  by_cases huL : u < L.length
                  · have w1 : (u : Int) < (L.length : Int) := by omega
                    have w2' : (0 : Int) ≤ (u : Int) := by omega
                    obtain ⟨q, hq⟩ : ∃ q, L[u]? = some q := ⟨_, List.getElem?_eq_getElem huL⟩
                    have ol := own_below H.out.1 (H4.out.2.1.trans ((HF.out.2.1.trans (hbo.mono HF.out.2.1.size)).mono H4.out.2.1.size))
                    obtain ⟨gl, rfl⟩ := own_at ol (by omega)
                    obtain ⟨x0, x1, _, _, _⟩ := pcells_at ol hq
                    have hs := dolK_succ (p := p) hq
                    have HD := Lib.hid hs
                    clear hs ol hq hbo
                    cases hd : dolK L p u
                    · cases h1 : (q.fr == p)
                      · have HE := Lib.hid (And.intro hd h1)
                        clear hd
                        go_wp2_with fail
                        go_quiet (fail)
                        go_wp2_with fail
                        exact ⟨⟨u + 1, by omega, by go_num, by rw [HD.out, HE.out.1, HE.out.2]; rfl, below_drewN' HB5.out.1 _⟩, by simp [intOf]; omega⟩
                      · cases h2 : (q.mode == 12)
                        · have HE := Lib.hid (And.intro hd (And.intro h1 h2))
                          clear hd
                          go_wp2_with fail
                          go_quiet (fail)
                          go_wp2_with fail
                          exact ⟨⟨u + 1, by omega, by go_num, by rw [HD.out, HE.out.1, HE.out.2.1, HE.out.2.2]; rfl, below_drewN' HB5.out.1 _⟩, by simp [intOf]; omega⟩
                        · have HE := Lib.hid (And.intro hd (And.intro h1 h2))
                          clear hd
                          go_wp2_with fail
                          go_quiet (fail)
                          go_wp2_with fail
                          exact ⟨⟨u + 1, by omega, by go_num, by rw [HD.out, HE.out.1, HE.out.2.1, HE.out.2.2]; rfl, below_drewN' HB5.out.1 _⟩, by simp [intOf]; omega⟩
                    · have HE := Lib.hid hd
                      clear hd
                      go_wp2_with fail
                      go_quiet (fail)
                      go_wp2_with fail
                      exact ⟨⟨u + 1, by omega, by go_num, by rw [HD.out, HE.out]; rfl, below_drewN' HB5.out.1 _⟩, by simp [intOf]; omega⟩
                  · obtain rfl : u = L.length := by omega
                    rw [dolK_all]
                    have of_ := own_below HF.out.1 hbo
                    cases hd : dolF L p
                    · obtain ⟨e1, e2⟩ := filt_get (fun p => !dolF L p) X t p HP.out (by rw [hd]; rfl)
                      rw [← HF.out.2.2.1] at e1
                      have hfl2 := (List.getElem?_eq_some_iff.1 e1).1
                      obtain ⟨gf, rfl⟩ := own_at of_ (by omega)
                      have x3 := own_cell of_ _ _ (by rw [List.getElem?_map, e1]; rfl)
                      have HE := Lib.hid e2
                      clear e1 e2 of_ hbo
                      obtain ⟨s, hs⟩ : ∃ s, s = ((X.take t).filter (fun p => !dolF L p)).length := ⟨_, rfl⟩
                      rw [← hs] at x3 hfl2 HE ⊢
                      clear hs
                      have v5 : (s : Int) < (F.length : Int) := by omega
                      have v6 : (0 : Int) ≤ (s : Int) := by omega
                      have t5 : decide ((F.length : Int) ≤ (s : Int)) = false := by simp; omega
                      have hsx : s ≤ 1000 := by omega
                      have v7 : (t : Int) + 1 < (X.length : Int) + 1 := by omega
                      have v8 : (0 : Int) ≤ (t : Int) + 1 := by omega
                      have v9 : (t : Int) + 1 < ((X.length + 1 : Nat) : Int) := by omega
                      have v10 : (t : Int) < (X.length : Int) := by omega
                      have v11 : ((t : Int) + 1).toNat = t + 1 := by omega
                      go_wp2_with fail
                      go_quiet (fail)
                      go_wp2_with fail
                      refine ⟨⟨t + 1, by omega, by go_num, by rw [HE.out]; go_num, ?_⟩, by simp [intOf]; omega⟩
                      exact below_drewN' (HB4.out.1.trans (HB5.out.1.mono HB4.out.1.size)) _
                    · have e2 := filt_no (fun p => !dolF L p) X t p HP.out (by rw [hd]; rfl)
                      have HE := Lib.hid e2
                      clear e2 of_ hd
                      go_wp2_with fail
                      refine ⟨⟨t + 1, by omega, by go_num, by rw [HE.out], hbo⟩, by simp [intOf]; omega⟩
              · obtain rfl : t = X.length := by omega
                have e1 : ((X.take X.length).filter (fun p => !dolF L p)).length = F.length := by rw [List.take_of_length_le (Nat.le_refl _), HF.out.2.2.1]
                rw [e1]
                clear e1
                go_wp2_with fail
                have q1 := HF.out.2.1.trans (HB4.out.1.mono HF.out.2.1.size)
                exact ⟨⟨k + 1, by omega, by go_num, H4.out.2.1.trans (q1.mono H4.out.2.1.size)⟩, by simp [intOf]; omega⟩
      · go_wp2
        go_ret
        exact ⟨rfl, H.out.2.trans (HB.out.mono H.out.2.size)⟩
end Go.Proofs.Ytjkiapgboljabaa
