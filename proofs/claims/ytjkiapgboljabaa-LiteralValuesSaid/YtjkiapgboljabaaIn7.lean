/- PartsInside: the walk. A part's inside is as the document says. -/
import Derived.Test.YtjkiapgboljabaaRof
import Derived.Test.YtjkiapgboljabaaIns
import Derived.BigQuiet
namespace Go.Proofs.Ytjkiapgboljabaa
open Go.RowKit
set_option linter.unusedVariables false
set_option linter.unusedSimpArgs false
set_option maxRecDepth 100000
/-- The reference's parts, as the walks take them. -/
theorem of_rp (l : List UInt8) (w : World) (hl : l.length ≤ 900) :
    Calls Try.prog 22 #[.string ⟨l.toArray⟩] w fun e w' => ∃ v, e = .returned v ∧ w'.ownsRow w.heap.size 26 5 v (partsL l).length (pcells (partsL l)) ∧ Below w.heap.size w w' := by
  rw [← outR_parts]
  exact of_r l w hl
set_option maxHeartbeats 20000000 in
theorem partsInside_w (l : List UInt8) (w : World) (hm : l.length ≤ 9223372036854775807) :
    Calls Try.prog 6 #[.string ⟨l.toArray⟩] w fun e w' => e = .returned (.bool true) ∧ Below w.heap.size w w' := by
  by_cases hl : 100 < l.length
  · have k1 : decide ((100 : Int) < (l.length : Int)) = true := by simp; omega
    go_enter Try.func6, Try.ntmps6
    go_wp2_with (go_at_call 17; refine (awake7_c _).mono ?_; rintro e w1 ⟨rfl, hb1⟩)
    go_ret
    exact ⟨rfl, hb1⟩
  · have k1 : decide ((100 : Int) < (l.length : Int)) = false := by simp; omega
    have hl0 : l.length ≤ 100 := by omega
    go_enter Try.func6, Try.ntmps6
    go_wp2_with (first
      | (go_at_call 17
         refine (awake7_c _).mono ?_
         rintro e w1 ⟨rfl, hb1⟩)
      | (go_at_call 22
         refine (of_rp l _ (by omega)).mono ?_
         rintro e w2 ⟨v, rfl, ho, hb2⟩
         obtain ⟨A, n, c, rfl⟩ := own_form' ho
         obtain rfl := own_len ho
         have H := Lib.hid (And.intro ho (hb1.trans (hb2.mono hb1.size)))
         clear ho hb1 hb2))
    have hpl := parts_len l
    obtain ⟨L, hL⟩ : ∃ L, L = partsL l := ⟨_, rfl⟩
    have HL := Lib.hid hL
    rw [← hL] at hpl H ⊢
    clear hL
    go_loopw [4] (fun i wr => ∃ k : Nat, k ≤ L.length ∧ i = .int .i64 k ∧ Below w2.heap.size w2 wr) (fun i _ => L.length - (intOf i).toNat)
    case atStart => exact ⟨0, by omega, rfl, Below.refl _ _⟩
    case round =>
      obtain ⟨i, hi, rfl, hb⟩ := hrel
      have HB := Lib.hid hb
      clear hb
      by_cases hlt : i < L.length
      · have u1 : (i : Int) < (L.length : Int) := by omega
        have u2 : (0 : Int) ≤ (i : Int) := by omega
        obtain ⟨q, hq⟩ : ∃ q, L[i]? = some q := ⟨_, List.getElem?_eq_getElem hlt⟩
        have ho := own_below H.out.1 HB.out
        obtain ⟨g, rfl⟩ := own_at ho (by omega)
        obtain ⟨y0, y1, y2, y3, y4⟩ := pcells_at ho hq
        have hN := nest_law l i q (by rw [← HL.out]; exact hq)
        rw [← HL.out] at hN
        have b0 := hN.f0
        have b1 : q.fr < toP q := hN.ft
        have b2 : toP q ≤ (l.length : Int) := hN.tn
        clear hN ho hq
        rcases md_cases q.mode with ⟨t1, t7, t8, t9, t12, t13⟩ | ⟨t1, t7, t8, t9, t12, t13⟩ | ⟨t1, t7, t8, t9, t12, t13⟩ | ⟨t1, t7, t8, t9, t12, t13⟩ | ⟨t1, t7, t8, t9, t12, t13⟩ | ⟨t1, t7, t8, t9, t12, t13⟩ | ⟨t1, t7, t8, t9, t12, t13⟩
        · cases hop : q.op
          · rw [hop] at y4
            have e1 : inFr q = q.fr + 1 + 1 := by
              simp only [beq_iff_eq, beq_eq_false_iff_ne, ne_eq] at t1 t7 t8 t9 t12 t13
              unfold inFr; simp [t1, t7, t8, t9]; try omega
            have e2 : inTo0 q = toP q - 1 := by
              simp only [beq_iff_eq, beq_eq_false_iff_ne, ne_eq] at t1 t7 t8 t9 t12 t13
              unfold inTo0; simp [t9, t12, t13, hop]; try omega
            have HE := Lib.hid (And.intro e1 (And.intro e2 hop))
            clear e1 e2 hop
            by_cases hc : toP q - 1 < q.fr + 1 + 1
            all_goals (
              have hcc := Lib.hid hc
              go_wp2_with (
                (go_at_call 23
                 refine (inside_op q _ _ HE.out.2.2 b0 (by omega) (by omega) (by omega)).mono ?_
                 rintro e w5 ⟨he, hb5⟩
                 unfold inTo at he
                 rw [HE.out.1, HE.out.2.1] at he
                 first
                   | rw [if_pos hcc.out] at he
                   | rw [if_neg hcc.out] at he
                 subst he
                 have H5 := Lib.hid hb5
                 clear hb5))
              exact ⟨⟨i + 1, by omega, by go_num, HB.out.trans (H5.out.mono HB.out.size)⟩, by simp [intOf]; omega⟩)
          · rw [hop] at y4
            have e1 : inFr q = q.fr + 1 + 1 := by
              simp only [beq_iff_eq, beq_eq_false_iff_ne, ne_eq] at t1 t7 t8 t9 t12 t13
              unfold inFr; simp [t1, t7, t8, t9]; try omega
            have e2 : inTo0 q = toP q := by
              simp only [beq_iff_eq, beq_eq_false_iff_ne, ne_eq] at t1 t7 t8 t9 t12 t13
              unfold inTo0; simp [t9, t12, t13, hop]; try omega
            have HE := Lib.hid (And.intro e1 (And.intro e2 hop))
            clear e1 e2 hop
            by_cases hc : toP q < q.fr + 1 + 1
            all_goals (
              have hcc := Lib.hid hc
              go_wp2_with (
                (go_at_call 23
                 refine (inside_op q _ _ HE.out.2.2 b0 (by omega) (by omega) (by omega)).mono ?_
                 rintro e w5 ⟨he, hb5⟩
                 unfold inTo at he
                 rw [HE.out.1, HE.out.2.1] at he
                 first
                   | rw [if_pos hcc.out] at he
                   | rw [if_neg hcc.out] at he
                 subst he
                 have H5 := Lib.hid hb5
                 clear hb5))
              exact ⟨⟨i + 1, by omega, by go_num, HB.out.trans (H5.out.mono HB.out.size)⟩, by simp [intOf]; omega⟩)
        · cases hop : q.op
          · rw [hop] at y4
            have e1 : inFr q = q.fr + 1 + 1 := by
              simp only [beq_iff_eq, beq_eq_false_iff_ne, ne_eq] at t1 t7 t8 t9 t12 t13
              unfold inFr; simp [t1, t7, t8, t9]; try omega
            have e2 : inTo0 q = toP q - 1 := by
              simp only [beq_iff_eq, beq_eq_false_iff_ne, ne_eq] at t1 t7 t8 t9 t12 t13
              unfold inTo0; simp [t9, t12, t13, hop]; try omega
            have HE := Lib.hid (And.intro e1 (And.intro e2 hop))
            clear e1 e2 hop
            by_cases hc : toP q - 1 < q.fr + 1 + 1
            all_goals (
              have hcc := Lib.hid hc
              go_wp2_with (
                (go_at_call 23
                 refine (inside_op q _ _ HE.out.2.2 b0 (by omega) (by omega) (by omega)).mono ?_
                 rintro e w5 ⟨he, hb5⟩
                 unfold inTo at he
                 rw [HE.out.1, HE.out.2.1] at he
                 first
                   | rw [if_pos hcc.out] at he
                   | rw [if_neg hcc.out] at he
                 subst he
                 have H5 := Lib.hid hb5
                 clear hb5))
              exact ⟨⟨i + 1, by omega, by go_num, HB.out.trans (H5.out.mono HB.out.size)⟩, by simp [intOf]; omega⟩)
          · rw [hop] at y4
            have e1 : inFr q = q.fr + 1 + 1 := by
              simp only [beq_iff_eq, beq_eq_false_iff_ne, ne_eq] at t1 t7 t8 t9 t12 t13
              unfold inFr; simp [t1, t7, t8, t9]; try omega
            have e2 : inTo0 q = toP q := by
              simp only [beq_iff_eq, beq_eq_false_iff_ne, ne_eq] at t1 t7 t8 t9 t12 t13
              unfold inTo0; simp [t9, t12, t13, hop]; try omega
            have HE := Lib.hid (And.intro e1 (And.intro e2 hop))
            clear e1 e2 hop
            by_cases hc : toP q < q.fr + 1 + 1
            all_goals (
              have hcc := Lib.hid hc
              go_wp2_with (
                (go_at_call 23
                 refine (inside_op q _ _ HE.out.2.2 b0 (by omega) (by omega) (by omega)).mono ?_
                 rintro e w5 ⟨he, hb5⟩
                 unfold inTo at he
                 rw [HE.out.1, HE.out.2.1] at he
                 first
                   | rw [if_pos hcc.out] at he
                   | rw [if_neg hcc.out] at he
                 subst he
                 have H5 := Lib.hid hb5
                 clear hb5))
              exact ⟨⟨i + 1, by omega, by go_num, HB.out.trans (H5.out.mono HB.out.size)⟩, by simp [intOf]; omega⟩)
        · cases hop : q.op
          · rw [hop] at y4
            have e1 : inFr q = q.fr + 1 + 1 := by
              simp only [beq_iff_eq, beq_eq_false_iff_ne, ne_eq] at t1 t7 t8 t9 t12 t13
              unfold inFr; simp [t1, t7, t8, t9]; try omega
            have e2 : inTo0 q = toP q - 1 := by
              simp only [beq_iff_eq, beq_eq_false_iff_ne, ne_eq] at t1 t7 t8 t9 t12 t13
              unfold inTo0; simp [t9, t12, t13, hop]; try omega
            have HE := Lib.hid (And.intro e1 (And.intro e2 hop))
            clear e1 e2 hop
            by_cases hc : toP q - 1 < q.fr + 1 + 1
            all_goals (
              have hcc := Lib.hid hc
              go_wp2_with (
                (go_at_call 23
                 refine (inside_op q _ _ HE.out.2.2 b0 (by omega) (by omega) (by omega)).mono ?_
                 rintro e w5 ⟨he, hb5⟩
                 unfold inTo at he
                 rw [HE.out.1, HE.out.2.1] at he
                 first
                   | rw [if_pos hcc.out] at he
                   | rw [if_neg hcc.out] at he
                 subst he
                 have H5 := Lib.hid hb5
                 clear hb5))
              exact ⟨⟨i + 1, by omega, by go_num, HB.out.trans (H5.out.mono HB.out.size)⟩, by simp [intOf]; omega⟩)
          · rw [hop] at y4
            have e1 : inFr q = q.fr + 1 + 1 := by
              simp only [beq_iff_eq, beq_eq_false_iff_ne, ne_eq] at t1 t7 t8 t9 t12 t13
              unfold inFr; simp [t1, t7, t8, t9]; try omega
            have e2 : inTo0 q = toP q := by
              simp only [beq_iff_eq, beq_eq_false_iff_ne, ne_eq] at t1 t7 t8 t9 t12 t13
              unfold inTo0; simp [t9, t12, t13, hop]; try omega
            have HE := Lib.hid (And.intro e1 (And.intro e2 hop))
            clear e1 e2 hop
            by_cases hc : toP q < q.fr + 1 + 1
            all_goals (
              have hcc := Lib.hid hc
              go_wp2_with (
                (go_at_call 23
                 refine (inside_op q _ _ HE.out.2.2 b0 (by omega) (by omega) (by omega)).mono ?_
                 rintro e w5 ⟨he, hb5⟩
                 unfold inTo at he
                 rw [HE.out.1, HE.out.2.1] at he
                 first
                   | rw [if_pos hcc.out] at he
                   | rw [if_neg hcc.out] at he
                 subst he
                 have H5 := Lib.hid hb5
                 clear hb5))
              exact ⟨⟨i + 1, by omega, by go_num, HB.out.trans (H5.out.mono HB.out.size)⟩, by simp [intOf]; omega⟩)
        · cases hop : q.op
          · rw [hop] at y4
            have e1 : inFr q = q.fr + 1 + 2 := by
              simp only [beq_iff_eq, beq_eq_false_iff_ne, ne_eq] at t1 t7 t8 t9 t12 t13
              unfold inFr; simp [t1, t7, t8, t9]; try omega
            have e2 : inTo0 q = toP q - 1 - 1 := by
              simp only [beq_iff_eq, beq_eq_false_iff_ne, ne_eq] at t1 t7 t8 t9 t12 t13
              unfold inTo0; simp [t9, t12, t13, hop]; try omega
            have HE := Lib.hid (And.intro e1 (And.intro e2 hop))
            clear e1 e2 hop
            by_cases hc : toP q - 1 - 1 < q.fr + 1 + 2
            all_goals (
              have hcc := Lib.hid hc
              go_wp2_with (
                (go_at_call 23
                 refine (inside_op q _ _ HE.out.2.2 b0 (by omega) (by omega) (by omega)).mono ?_
                 rintro e w5 ⟨he, hb5⟩
                 unfold inTo at he
                 rw [HE.out.1, HE.out.2.1] at he
                 first
                   | rw [if_pos hcc.out] at he
                   | rw [if_neg hcc.out] at he
                 subst he
                 have H5 := Lib.hid hb5
                 clear hb5))
              exact ⟨⟨i + 1, by omega, by go_num, HB.out.trans (H5.out.mono HB.out.size)⟩, by simp [intOf]; omega⟩)
          · rw [hop] at y4
            have e1 : inFr q = q.fr + 1 + 2 := by
              simp only [beq_iff_eq, beq_eq_false_iff_ne, ne_eq] at t1 t7 t8 t9 t12 t13
              unfold inFr; simp [t1, t7, t8, t9]; try omega
            have e2 : inTo0 q = toP q := by
              simp only [beq_iff_eq, beq_eq_false_iff_ne, ne_eq] at t1 t7 t8 t9 t12 t13
              unfold inTo0; simp [t9, t12, t13, hop]; try omega
            have HE := Lib.hid (And.intro e1 (And.intro e2 hop))
            clear e1 e2 hop
            by_cases hc : toP q < q.fr + 1 + 2
            all_goals (
              have hcc := Lib.hid hc
              go_wp2_with (
                (go_at_call 23
                 refine (inside_op q _ _ HE.out.2.2 b0 (by omega) (by omega) (by omega)).mono ?_
                 rintro e w5 ⟨he, hb5⟩
                 unfold inTo at he
                 rw [HE.out.1, HE.out.2.1] at he
                 first
                   | rw [if_pos hcc.out] at he
                   | rw [if_neg hcc.out] at he
                 subst he
                 have H5 := Lib.hid hb5
                 clear hb5))
              exact ⟨⟨i + 1, by omega, by go_num, HB.out.trans (H5.out.mono HB.out.size)⟩, by simp [intOf]; omega⟩)
        · cases hop : q.op
          · rw [hop] at y4
            have e1 : inFr q = q.fr + 1 := by
              simp only [beq_iff_eq, beq_eq_false_iff_ne, ne_eq] at t1 t7 t8 t9 t12 t13
              unfold inFr; simp [t1, t7, t8, t9]; try omega
            have e2 : inTo0 q = toP q := by
              simp only [beq_iff_eq, beq_eq_false_iff_ne, ne_eq] at t1 t7 t8 t9 t12 t13
              unfold inTo0; simp [t9, t12, t13, hop]; try omega
            have HE := Lib.hid (And.intro e1 (And.intro e2 hop))
            clear e1 e2 hop
            have hc : ¬ (toP q < q.fr + 1) := by omega
            all_goals (
              have hcc := Lib.hid hc
              go_wp2_with (
                (go_at_call 23
                 refine (inside_op q _ _ HE.out.2.2 b0 (by omega) (by omega) (by omega)).mono ?_
                 rintro e w5 ⟨he, hb5⟩
                 unfold inTo at he
                 rw [HE.out.1, HE.out.2.1] at he
                 first
                   | rw [if_pos hcc.out] at he
                   | rw [if_neg hcc.out] at he
                 subst he
                 have H5 := Lib.hid hb5
                 clear hb5))
              exact ⟨⟨i + 1, by omega, by go_num, HB.out.trans (H5.out.mono HB.out.size)⟩, by simp [intOf]; omega⟩)
          · rw [hop] at y4
            have e1 : inFr q = q.fr + 1 := by
              simp only [beq_iff_eq, beq_eq_false_iff_ne, ne_eq] at t1 t7 t8 t9 t12 t13
              unfold inFr; simp [t1, t7, t8, t9]; try omega
            have e2 : inTo0 q = toP q := by
              simp only [beq_iff_eq, beq_eq_false_iff_ne, ne_eq] at t1 t7 t8 t9 t12 t13
              unfold inTo0; simp [t9, t12, t13, hop]; try omega
            have HE := Lib.hid (And.intro e1 (And.intro e2 hop))
            clear e1 e2 hop
            have hc : ¬ (toP q < q.fr + 1) := by omega
            all_goals (
              have hcc := Lib.hid hc
              go_wp2_with (
                (go_at_call 23
                 refine (inside_op q _ _ HE.out.2.2 b0 (by omega) (by omega) (by omega)).mono ?_
                 rintro e w5 ⟨he, hb5⟩
                 unfold inTo at he
                 rw [HE.out.1, HE.out.2.1] at he
                 first
                   | rw [if_pos hcc.out] at he
                   | rw [if_neg hcc.out] at he
                 subst he
                 have H5 := Lib.hid hb5
                 clear hb5))
              exact ⟨⟨i + 1, by omega, by go_num, HB.out.trans (H5.out.mono HB.out.size)⟩, by simp [intOf]; omega⟩)
        · cases hop : q.op
          · rw [hop] at y4
            have e1 : inFr q = q.fr + 1 := by
              simp only [beq_iff_eq, beq_eq_false_iff_ne, ne_eq] at t1 t7 t8 t9 t12 t13
              unfold inFr; simp [t1, t7, t8, t9]; try omega
            have e2 : inTo0 q = toP q := by
              simp only [beq_iff_eq, beq_eq_false_iff_ne, ne_eq] at t1 t7 t8 t9 t12 t13
              unfold inTo0; simp [t9, t12, t13, hop]; try omega
            have HE := Lib.hid (And.intro e1 (And.intro e2 hop))
            clear e1 e2 hop
            have hc : ¬ (toP q < q.fr + 1) := by omega
            all_goals (
              have hcc := Lib.hid hc
              go_wp2_with (
                (go_at_call 23
                 refine (inside_op q _ _ HE.out.2.2 b0 (by omega) (by omega) (by omega)).mono ?_
                 rintro e w5 ⟨he, hb5⟩
                 unfold inTo at he
                 rw [HE.out.1, HE.out.2.1] at he
                 first
                   | rw [if_pos hcc.out] at he
                   | rw [if_neg hcc.out] at he
                 subst he
                 have H5 := Lib.hid hb5
                 clear hb5))
              exact ⟨⟨i + 1, by omega, by go_num, HB.out.trans (H5.out.mono HB.out.size)⟩, by simp [intOf]; omega⟩)
          · rw [hop] at y4
            have e1 : inFr q = q.fr + 1 := by
              simp only [beq_iff_eq, beq_eq_false_iff_ne, ne_eq] at t1 t7 t8 t9 t12 t13
              unfold inFr; simp [t1, t7, t8, t9]; try omega
            have e2 : inTo0 q = toP q := by
              simp only [beq_iff_eq, beq_eq_false_iff_ne, ne_eq] at t1 t7 t8 t9 t12 t13
              unfold inTo0; simp [t9, t12, t13, hop]; try omega
            have HE := Lib.hid (And.intro e1 (And.intro e2 hop))
            clear e1 e2 hop
            have hc : ¬ (toP q < q.fr + 1) := by omega
            all_goals (
              have hcc := Lib.hid hc
              go_wp2_with (
                (go_at_call 23
                 refine (inside_op q _ _ HE.out.2.2 b0 (by omega) (by omega) (by omega)).mono ?_
                 rintro e w5 ⟨he, hb5⟩
                 unfold inTo at he
                 rw [HE.out.1, HE.out.2.1] at he
                 first
                   | rw [if_pos hcc.out] at he
                   | rw [if_neg hcc.out] at he
                 subst he
                 have H5 := Lib.hid hb5
                 clear hb5))
              exact ⟨⟨i + 1, by omega, by go_num, HB.out.trans (H5.out.mono HB.out.size)⟩, by simp [intOf]; omega⟩)
        · cases hop : q.op
          · rw [hop] at y4
            have e1 : inFr q = q.fr + 1 := by
              simp only [beq_iff_eq, beq_eq_false_iff_ne, ne_eq] at t1 t7 t8 t9 t12 t13
              unfold inFr; simp [t1, t7, t8, t9]; try omega
            have e2 : inTo0 q = toP q - 1 := by
              simp only [beq_iff_eq, beq_eq_false_iff_ne, ne_eq] at t1 t7 t8 t9 t12 t13
              unfold inTo0; simp [t9, t12, t13, hop]; try omega
            have HE := Lib.hid (And.intro e1 (And.intro e2 hop))
            clear e1 e2 hop
            by_cases hc : toP q - 1 < q.fr + 1
            all_goals (
              have hcc := Lib.hid hc
              go_wp2_with (
                (go_at_call 23
                 refine (inside_op q _ _ HE.out.2.2 b0 (by omega) (by omega) (by omega)).mono ?_
                 rintro e w5 ⟨he, hb5⟩
                 unfold inTo at he
                 rw [HE.out.1, HE.out.2.1] at he
                 first
                   | rw [if_pos hcc.out] at he
                   | rw [if_neg hcc.out] at he
                 subst he
                 have H5 := Lib.hid hb5
                 clear hb5))
              exact ⟨⟨i + 1, by omega, by go_num, HB.out.trans (H5.out.mono HB.out.size)⟩, by simp [intOf]; omega⟩)
          · rw [hop] at y4
            have e1 : inFr q = q.fr + 1 := by
              simp only [beq_iff_eq, beq_eq_false_iff_ne, ne_eq] at t1 t7 t8 t9 t12 t13
              unfold inFr; simp [t1, t7, t8, t9]; try omega
            have e2 : inTo0 q = toP q := by
              simp only [beq_iff_eq, beq_eq_false_iff_ne, ne_eq] at t1 t7 t8 t9 t12 t13
              unfold inTo0; simp [t9, t12, t13, hop]; try omega
            have HE := Lib.hid (And.intro e1 (And.intro e2 hop))
            clear e1 e2 hop
            have hc : ¬ (toP q < q.fr + 1) := by omega
            all_goals (
              have hcc := Lib.hid hc
              go_wp2_with (
                (go_at_call 23
                 refine (inside_op q _ _ HE.out.2.2 b0 (by omega) (by omega) (by omega)).mono ?_
                 rintro e w5 ⟨he, hb5⟩
                 unfold inTo at he
                 rw [HE.out.1, HE.out.2.1] at he
                 first
                   | rw [if_pos hcc.out] at he
                   | rw [if_neg hcc.out] at he
                 subst he
                 have H5 := Lib.hid hb5
                 clear hb5))
              exact ⟨⟨i + 1, by omega, by go_num, HB.out.trans (H5.out.mono HB.out.size)⟩, by simp [intOf]; omega⟩)
      · go_wp2_with fail
        go_ret
        exact ⟨rfl, H.out.2.trans (HB.out.mono H.out.2.size)⟩
end Go.Proofs.Ytjkiapgboljabaa
