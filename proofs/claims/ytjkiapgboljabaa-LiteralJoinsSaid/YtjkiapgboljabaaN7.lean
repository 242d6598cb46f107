/- PartsNest: the walk. The parts of any text lie within each other or apart; the last one around a place is its own. -/
import Derived.Test.YtjkiapgboljabaaPa2
import Derived.Test.YtjkiapgboljabaaPl7
namespace Go.Proofs.Ytjkiapgboljabaa
open Go.RowKit
set_option linter.unusedVariables false
set_option linter.unusedSimpArgs false
set_option maxRecDepth 100000
theorem pcells_at {L : List Prt} {w : World} {B g n c : Nat} (h : w.ownsRow B 26 5 (.slice (some ⟨g, 0, none⟩) n c) n (pcells L)) {i : Nat} {q : Prt} (hi : L[i]? = some q) :
    w.cell? ⟨g, i * 5, none⟩ = some (.int .i64 q.mode) ∧ w.cell? ⟨g, i * 5 + 1, none⟩ = some (.int .i64 q.fr) ∧ w.cell? ⟨g, i * 5 + 2, none⟩ = some (.int .i64 (toP q)) ∧ w.cell? ⟨g, i * 5 + 3, none⟩ = some (.int .i64 q.up) ∧ w.cell? ⟨g, i * 5 + 4, none⟩ = some (.bool q.op) :=
  ⟨own_cell h _ _ (pcells_get _ i q hi 0 _ rfl), own_cell h _ _ (pcells_get _ i q hi 1 _ rfl), own_cell h _ _ (pcells_get _ i q hi 2 _ rfl), own_cell h _ _ (pcells_get _ i q hi 3 _ rfl), own_cell h _ _ (pcells_get _ i q hi 4 _ rfl)⟩
theorem parts_len (l : List UInt8) : (partsL l).length ≤ l.length := by unfold partsL; rw [List.length_map]; exact canon_len l l.length
theorem upF_le (L : List Prt) (x : Int) : ∀ k, -1 ≤ upF L x k ∧ upF L x k < (k : Int)
  | 0 => by simp [upF]
  | k + 1 => by
    have := upF_le L x k
    unfold upF
    split <;> omega
set_option maxHeartbeats 1000000 in
theorem partsNest_w (l : List UInt8) (w : World) (hm : l.length ≤ 9223372036854775807) :
    Calls Try.prog 3 #[.string ⟨l.toArray⟩] w fun e w' => e = .returned (.bool true) ∧ Below w.heap.size w w' := by
  by_cases hl : 100 < l.length
  · have k1 : decide ((100 : Int) < (l.length : Int)) = true := by simp; omega
    go_enter Try.func3, Try.ntmps3
    go_wp2_with (go_at_call 17; refine (awake7_c _).mono ?_; rintro e w1 ⟨rfl, hb1⟩)
    go_ret
    exact ⟨rfl, hb1⟩
  · have k1 : decide ((100 : Int) < (l.length : Int)) = false := by simp; omega
    have hl0 : l.length ≤ 100 := by omega
    go_enter Try.func3, Try.ntmps3
    go_wp2_with (first
      | (go_at_call 17
         refine (awake7_c _).mono ?_
         rintro e w1 ⟨rfl, hb1⟩)
      | (go_at_call 18
         refine (of_m l _ (by omega)).mono ?_
         rintro e w2 ⟨v, rfl, ho, hb2⟩
         obtain ⟨A, n, c, rfl⟩ := own_form' ho
         obtain rfl := own_len ho
         have H := Lib.hid (And.intro ho (hb1.trans (hb2.mono hb1.size)))
         clear ho hb1 hb2))
    have hpl := parts_len l
    obtain ⟨L, hL⟩ : ∃ L, L = partsL l := ⟨_, rfl⟩
    have HL := Lib.hid hL
    rw [← hL] at hpl H ⊢
    clear hL
    go_loopw [4] (fun i wr => ∃ k : Nat, k ≤ L.length ∧ i = .int .i64 k ∧ Below w2.heap.size w2 wr) (fun i _ => L.length - (intOf i).toNat)
    case atStart => exact ⟨0, by omega, rfl, Below.refl _ _⟩
    case round =>
      obtain ⟨i, hi, rfl, hb⟩ := hrel
      have HB := Lib.hid hb
      clear hb
      by_cases hlt : i < L.length
      · have u1 : (i : Int) < (L.length : Int) := by omega
        have u2 : (0 : Int) ≤ (i : Int) := by omega
        obtain ⟨q, hq⟩ : ∃ q, L[i]? = some q := ⟨_, List.getElem?_eq_getElem hlt⟩
        have ho := own_below H.out.1 HB.out
        obtain ⟨g, rfl⟩ := own_at ho (by omega)
        obtain ⟨y0, y1, y2, y3, y4⟩ := pcells_at ho hq
        have hN := nest_law l i q (by rw [← HL.out]; exact hq)
        rw [← HL.out] at hN
        have t1 : decide (q.fr < 0) = false := by have := hN.f0; simp; omega
        have t2 : decide (toP q ≤ q.fr) = false := decide_eq_false (by have := hN.ft; show ¬ q.to ≤ q.fr; omega)
        have t3 : decide ((l.length : Int) < toP q) = false := decide_eq_false (by have := hN.tn; show ¬ (l.length : Int) < q.to; omega)
        have HN := Lib.hid (And.intro hq (And.intro hN ho))
        clear hq hN ho y0 y4
        by_cases h0 : 0 < i
        · have t4 : decide ((0 : Int) < (i : Int)) = true := by simp; omega
          obtain ⟨p, hp⟩ : ∃ p, L[i - 1]? = some p := ⟨_, List.getElem?_eq_getElem (by omega)⟩
          obtain ⟨_, z1, _, _, _⟩ := pcells_at HN.out.2.2 hp
          have t5 : decide (q.fr ≤ p.fr) = false := by have := HN.out.2.1.rise (i - 1) p (by omega) hp; simp; omega
          clear hp
          go_wp2_with fail
          go_quiet (fail)
          have HB2 := Lib.hid (below_drewN' HB.out nq)
          obtain ⟨wo, hwo⟩ : ∃ wo : World, wo = wr.drewN nq := ⟨_, rfl⟩
          rw [← hwo] at HB2 ⊢
          have ho2 := own_below H.out.1 HB2.out
          obtain ⟨_, y1, y2, y3, _⟩ := pcells_at ho2 HN.out.1
          have HO2 := Lib.hid ho2
          clear ho2 hwo
          go_wp2_with fail
          go_loopw [6, 5] (fun k u wx => ∃ j : Nat, j ≤ i ∧ k = .int .i64 j ∧ u = .int .i64 (upF L q.fr j) ∧ Below w2.heap.size w2 wx) (fun k u _ => i - (intOf k).toNat)
          case atStart => exact ⟨0, by omega, rfl, rfl, HB2.out⟩
          case round =>
            obtain ⟨j, hj, rfl, rfl, hb⟩ := hrel
            have HB3 := Lib.hid hb
            clear hb
            have ho3 := own_below H.out.1 HB3.out
            by_cases hji : j < i
            · have v1 : (j : Int) < (i : Int) := by omega
              have v2 : (0 : Int) ≤ (j : Int) := by omega
              have v3 : (j : Int) < (L.length : Int) := by omega
              obtain ⟨p2, hp2⟩ : ∃ p, L[j]? = some p := ⟨_, List.getElem?_eq_getElem (by omega)⟩
              obtain ⟨_, x1, x2, x3, _⟩ := pcells_at ho3 hp2
              obtain ⟨_, x4, x5, x6, _⟩ := pcells_at ho3 HN.out.1
              have hnest := HN.out.2.1.nest j p2 hji hp2
              have hu : upF L q.fr (j + 1) = if q.fr < toP p2 then (j : Int) else upF L q.fr j := by
                show (if q.fr < (L.getD j dP).to then (j : Int) else upF L q.fr j) = _
                rw [getD_some hp2]; rfl
              have HP := Lib.hid (And.intro hp2 hu)
              clear hp2 hu ho3
              by_cases hc : q.fr < toP p2
              · have t6 : decide (q.fr < toP p2) = true := decide_eq_true hc
                have t7 : decide (toP p2 < toP q) = false := decide_eq_false (by have := hnest hc; show ¬ p2.to < q.to; omega)
                have HC := Lib.hid hc
                clear hc hnest
                go_wp2_with fail
                go_quiet (fail)
                go_wp2_with fail
                go_quiet (fail)
                go_wp2_with fail
                refine ⟨⟨j + 1, by omega, by go_num, ?_, ?_⟩, by simp [intOf]; omega⟩
                · rw [HP.out.2, if_pos HC.out]
                · exact below_drewN' HB3.out _
              · have t6 : decide (q.fr < toP p2) = false := decide_eq_false hc
                have HC := Lib.hid hc
                clear hc hnest
                go_wp2_with fail
                go_quiet (fail)
                go_wp2_with fail
                refine ⟨⟨j + 1, by omega, by go_num, ?_, ?_⟩, by simp [intOf]; omega⟩
                · rw [HP.out.2, if_neg (by have := HC.out; omega)]
                · exact below_drewN' HB3.out _
            · obtain rfl : j = i := by omega
              obtain ⟨_, x4, x5, x6, _⟩ := pcells_at ho3 HN.out.1
              have e := HN.out.2.1.up
              rw [e]
              clear e ho3
              go_wp2_with fail
              try go_quiet (fail)
              try go_wp2_with fail
              exact ⟨⟨j + 1, by omega, by go_num, HB3.out⟩, by simp [intOf]; omega⟩
        · have t4 : decide ((0 : Int) < (i : Int)) = false := by simp; omega
          go_wp2_with fail
          go_quiet (fail)
          have HB2 := Lib.hid (below_drewN' HB.out nq)
          obtain ⟨wo, hwo⟩ : ∃ wo : World, wo = wr.drewN nq := ⟨_, rfl⟩
          rw [← hwo] at HB2 ⊢
          have ho2 := own_below H.out.1 HB2.out
          obtain ⟨_, y1, y2, y3, _⟩ := pcells_at ho2 HN.out.1
          have HO2 := Lib.hid ho2
          clear ho2 hwo
          go_wp2_with fail
          go_loopw [6, 5] (fun k u wx => ∃ j : Nat, j ≤ i ∧ k = .int .i64 j ∧ u = .int .i64 (upF L q.fr j) ∧ Below w2.heap.size w2 wx) (fun k u _ => i - (intOf k).toNat)
          case atStart => exact ⟨0, by omega, rfl, rfl, HB2.out⟩
          case round =>
            obtain ⟨j, hj, rfl, rfl, hb⟩ := hrel
            have HB3 := Lib.hid hb
            clear hb
            have ho3 := own_below H.out.1 HB3.out
            by_cases hji : j < i
            · have v1 : (j : Int) < (i : Int) := by omega
              have v2 : (0 : Int) ≤ (j : Int) := by omega
              have v3 : (j : Int) < (L.length : Int) := by omega
              obtain ⟨p2, hp2⟩ : ∃ p, L[j]? = some p := ⟨_, List.getElem?_eq_getElem (by omega)⟩
              obtain ⟨_, x1, x2, x3, _⟩ := pcells_at ho3 hp2
              obtain ⟨_, x4, x5, x6, _⟩ := pcells_at ho3 HN.out.1
              have hnest := HN.out.2.1.nest j p2 hji hp2
              have hu : upF L q.fr (j + 1) = if q.fr < toP p2 then (j : Int) else upF L q.fr j := by
                show (if q.fr < (L.getD j dP).to then (j : Int) else upF L q.fr j) = _
                rw [getD_some hp2]; rfl
              have HP := Lib.hid (And.intro hp2 hu)
              clear hp2 hu ho3
              by_cases hc : q.fr < toP p2
              · have t6 : decide (q.fr < toP p2) = true := decide_eq_true hc
                have t7 : decide (toP p2 < toP q) = false := decide_eq_false (by have := hnest hc; show ¬ p2.to < q.to; omega)
                have HC := Lib.hid hc
                clear hc hnest
                go_wp2_with fail
                go_quiet (fail)
                go_wp2_with fail
                go_quiet (fail)
                go_wp2_with fail
                refine ⟨⟨j + 1, by omega, by go_num, ?_, ?_⟩, by simp [intOf]; omega⟩
                · rw [HP.out.2, if_pos HC.out]
                · exact below_drewN' HB3.out _
              · have t6 : decide (q.fr < toP p2) = false := decide_eq_false hc
                have HC := Lib.hid hc
                clear hc hnest
                go_wp2_with fail
                go_quiet (fail)
                go_wp2_with fail
                refine ⟨⟨j + 1, by omega, by go_num, ?_, ?_⟩, by simp [intOf]; omega⟩
                · rw [HP.out.2, if_neg (by have := HC.out; omega)]
                · exact below_drewN' HB3.out _
            · obtain rfl : j = i := by omega
              obtain ⟨_, x4, x5, x6, _⟩ := pcells_at ho3 HN.out.1
              have e := HN.out.2.1.up
              rw [e]
              clear e ho3
              go_wp2_with fail
              try go_quiet (fail)
              try go_wp2_with fail
              exact ⟨⟨j + 1, by omega, by go_num, HB3.out⟩, by simp [intOf]; omega⟩
      · go_wp2
        go_ret
        refine ⟨rfl, ?_⟩
        exact H.out.2.trans (HB.out.mono H.out.2.size)
end Go.Proofs.Ytjkiapgboljabaa
