/- PartsPick: the walk. Printed by gen_lawpick.py. -/
import Derived.Test.YtjkiapgboljabaaPk
import Derived.Test.YtjkiapgboljabaaPa2
import Derived.Test.YtjkiapgboljabaaPl7
import Derived.Test.YtjkiapgboljabaaMem
namespace Go.Proofs.Ytjkiapgboljabaa
open Go.RowKit
set_option linter.unusedVariables false
set_option linter.unusedSimpArgs false
set_option maxRecDepth 100000
theorem pkF_pre (P : Prt → Bool) (L : List Prt) (k : Nat) : ∀ m, k ≤ m → pkF P L k <+: pkF P L m := by
  intro m hm
  induction m with
  | zero => obtain rfl : k = 0 := by omega
            exact List.prefix_refl _
  | succ m ih =>
    by_cases e : k = m + 1
    · subst e; exact List.prefix_refl _
    · refine (ih (by omega)).trans ?_
      unfold pkF
      rw [List.range_succ, List.filter_append]
      exact List.prefix_append _ _
theorem pk_next (P : Prt → Bool) {L : List Prt} {k : Nat} {q : Prt} (h : L[k]? = some q) (hp : P q = true) : (pkL P L)[(pkF P L k).length]? = some k ∧ (pkF P L k).length < (pkL P L).length ∧ (pkF P L (k + 1)).length = (pkF P L k).length + 1 := by
  have hk := (List.getElem?_eq_some_iff.1 h).1
  have e := pkF_succ P L k q h
  rw [if_pos hp] at e
  obtain ⟨T, hT⟩ := pkF_pre P L (k + 1) L.length hk
  rw [e] at hT
  have h2 : (pkL P L)[(pkF P L k).length]? = some k := by unfold pkL; rw [← hT]; simp
  exact ⟨h2, (List.getElem?_eq_some_iff.1 h2).1, by rw [e]; simp⟩
theorem pkF_no (P : Prt → Bool) {L : List Prt} {k : Nat} {q : Prt} (h : L[k]? = some q) (hp : P q = false) : (pkF P L (k + 1)).length = (pkF P L k).length := by
  rw [pkF_succ P L k q h, if_neg (by rw [hp]; simp)]
theorem part_rows : ∀ rows : List (List Value), (∀ r ∈ rows, r.length = [FK.i, .i, .i, .i, .b].length ∧ Qk [.i, .i, .i, .i, .b] r) → ∃ xs : List Prt, rows.flatten = pcells xs ∧ xs.length = rows.length :=
  rows_data (ks := [.i, .i, .i, .i, .b]) pcell fun r hl h => by
    obtain ⟨v0, h0, n0, rfl, _⟩ := h 0 .i rfl
    obtain ⟨v1, h1, n1, rfl, _⟩ := h 1 .i rfl
    obtain ⟨v2, h2, n2, rfl, _⟩ := h 2 .i rfl
    obtain ⟨v3, h3, n3, rfl, _⟩ := h 3 .i rfl
    obtain ⟨v4, h4, n4, rfl⟩ := h 4 .b rfl
    match r, hl with
    | [a, b, c, d, e], _ =>
      simp at h0 h1 h2 h3 h4
      subst h0 h1 h2 h3 h4
      exact ⟨⟨n0, n1, n2, n3, n4⟩, rfl⟩
set_option maxHeartbeats 2000000 in
theorem partsPick_w (L : List Prt) (A : Option Addr) (n c : Nat) (x u : Int) (w : World) (hr : Rd w w.heap.size 5 (.slice A n c) n (pcells L)) (hn : n = L.length) (hm : n ≤ 9223372036854775807)
    (hx : -9223372036854775808 ≤ x ∧ x ≤ 9223372036854775807) (hu : -9223372036854775808 ≤ u ∧ u ≤ 9223372036854775807) :
    Calls Try.prog 5 #[.slice A n c, .int .i64 x, .int .i64 u] w fun e w' => e = .returned (.bool true) ∧ Below w.heap.size w w' := by
  subst hn
  clear hx hu
  have HR := Lib.hid hr
  clear hr
  by_cases hl : 60 < L.length
  · have k1 : decide ((60 : Int) < (L.length : Int)) = true := by simp; omega
    go_enter Try.func5, Try.ntmps5
    go_wp2_with (go_at_call 17; refine (awake7_c _).mono ?_; rintro e w1 ⟨rfl, hb1⟩)
    go_ret
    exact ⟨rfl, hb1⟩
  · have k1 : decide ((60 : Int) < (L.length : Int)) = false := by simp; omega
    have hl0 : L.length ≤ 60 := by omega
    go_enter Try.func5, Try.ntmps5
    go_wp2_with (first
      | (go_at_call 17
         refine (awake7_c _).mono ?_
         rintro e w1 ⟨rfl, hb1⟩)
      | (go_at_call 20
         with_reducible refine (around_m L x c L.length A _ (by omega) rfl (HR.out.next hb1)).mono ?_
         rintro e w2 ⟨va, rfl, ho, hb2⟩
         have hb12 := hb1.trans (hb2.mono hb1.size)
         obtain ⟨A2, n2, c2, rfl⟩ := own_form' ho
         obtain rfl := own_len ho
         have H2 := Lib.hid (And.intro ho hb12)
         clear ho hb1 hb2 hb12)
      | (go_at_call 21
         with_reducible refine (kids_m L u c L.length A _ (by omega) rfl (HR.out.next H2.out.2)).mono ?_
         rintro e w3 ⟨vb, rfl, ho, hb3⟩
         obtain ⟨A3, n3, c3, rfl⟩ := own_form' ho
         obtain rfl := own_len ho
         have H3 := Lib.hid (And.intro (own_below H2.out.1 hb3) (And.intro ho (H2.out.2.trans (hb3.mono H2.out.2.size))))
         clear ho hb3))
    go_loopw [11, 9, 10] (fun i s t wr => ∃ k : Nat, k ≤ L.length ∧ i = .int .i64 k ∧ s = .int .i64 ((pkF (arB x) L k).length : Int) ∧ t = .int .i64 ((pkF (kiB u) L k).length : Int) ∧ Below w3.heap.size w3 wr) (fun i s t _ => L.length - (intOf i).toNat)
    case atStart => exact ⟨0, by omega, rfl, rfl, rfl, Below.refl _ _⟩
    case round =>
      obtain ⟨i, hi, rfl, rfl, rfl, hb⟩ := hrel
      have HB := Lib.hid hb
      clear hb
      by_cases hlt : i < L.length
      · have u1 : (i : Int) < (L.length : Int) := by omega
        have u2 : (0 : Int) ≤ (i : Int) := by omega
        obtain ⟨q, hq0⟩ : ∃ q, L[i]? = some q := ⟨_, List.getElem?_eq_getElem hlt⟩
        have HQ := Lib.hid hq0
        obtain ⟨g, o, hA, hg, hc⟩ := rd_at HR.out (by omega)
        subst hA
        have hbw := H3.out.2.2.trans (HB.out.mono H3.out.2.2.size)
        have hcell : ∀ (j : Nat) u, (pcell q)[j]? = some u → wr.cell? ⟨g, o + (i * 5 + j), none⟩ = some u := fun j u hj => (hbw.cell (p := ⟨g, o + (i * 5 + j), none⟩) hg).trans (hc _ _ (pcells_get L i q hq0 j u hj))
        have y1 : wr.cell? ⟨g, o + i * 5 + 1, none⟩ = some (.int .i64 q.fr) := by rw [Nat.add_assoc]; exact hcell 1 _ rfl
        have y2 : wr.cell? ⟨g, o + i * 5 + 2, none⟩ = some (.int .i64 (toP q)) := by rw [Nat.add_assoc]; exact hcell 2 _ rfl
        have y3 : wr.cell? ⟨g, o + i * 5 + 3, none⟩ = some (.int .i64 q.up) := by rw [Nat.add_assoc]; exact hcell 3 _ rfl
        have y4 : wr.cell? ⟨g, o + i * 5 + 4, none⟩ = some (.bool q.op) := by rw [Nat.add_assoc]; exact hcell 4 _ rfl
        have oa := own_below H3.out.1 HB.out
        clear hcell hc hbw
        go_upto_region 12 with fail
        go_cut [60] (fun s60 wx => wr = wx ∧ s60 = .bool (arB x q))
        case first =>
          by_cases h1 : q.fr < x
          · have t1 : decide (q.fr < x) = true := decide_eq_true h1
            by_cases h2 : x < toP q
            · have t2 : decide (x < toP q) = true := decide_eq_true h2
              have hb4 : arB x q = true := by unfold arB; rw [t1, show decide (x < q.to) = true from t2]; rfl
              have HZ := Lib.hid hb4
              clear hb4
              go_wp2_with fail
              try go_quiet (fail)
              try go_wp2_with fail
              go_meet
              exact ⟨rfl, by rw [HZ.out]⟩
            · have t2 : decide (x < toP q) = false := decide_eq_false h2
              cases h3 : q.op
              · rw [h3] at y4
                have hb4 : arB x q = false := by unfold arB; rw [t1, show decide (x < q.to) = false from t2, h3]; rfl
                have HZ := Lib.hid hb4
                clear hb4
                go_wp2_with fail
                try go_quiet (fail)
                try go_wp2_with fail
                go_meet
                exact ⟨rfl, by rw [HZ.out]⟩
              · rw [h3] at y4
                cases h4 : (toP q == x)
                · have hs4 : (x == toP q) = false := by rw [beq_eq_false_iff_ne] at h4 ⊢; exact Ne.symm h4
                  have hb4 : arB x q = false := by unfold arB; rw [t1, show decide (x < q.to) = false from t2, h3, show (x == q.to) = false from hs4]; rfl
                  have HZ := Lib.hid hb4
                  clear hb4
                  go_wp2_with fail
                  try go_quiet (fail)
                  try go_wp2_with fail
                  go_meet
                  exact ⟨rfl, by rw [HZ.out]⟩
                · have hs4 : (x == toP q) = true := by rw [beq_iff_eq] at h4 ⊢; exact h4.symm
                  have hb4 : arB x q = true := by unfold arB; rw [t1, show decide (x < q.to) = false from t2, h3, show (x == q.to) = true from hs4]; rfl
                  have HZ := Lib.hid hb4
                  clear hb4
                  go_wp2_with fail
                  try go_quiet (fail)
                  try go_wp2_with fail
                  go_meet
                  exact ⟨rfl, by rw [HZ.out]⟩
          · have t1 : decide (q.fr < x) = false := decide_eq_false h1
            have hb4 : arB x q = false := by unfold arB; rw [t1]; rfl
            have HZ := Lib.hid hb4
            clear hb4
            go_wp2_with fail
            try go_quiet (fail)
            try go_wp2_with fail
            go_meet
            exact ⟨rfl, by rw [HZ.out]⟩
        case rest =>
          obtain ⟨rfl, rfl⟩ := hcut
          have ob := own_below H3.out.2.1 HB.out
          clear y1 y2 y4
          cases h4 : arB x q
          · cases h5 : kiB u q
            · skip
              have an6 := pkF_no (arB x) HQ.out h4
              have bn6 := pkF_no (kiB u) HQ.out h5
              have HX := Lib.hid (And.intro an6 bn6)
              clear an6 bn6 oa ob h4 
              have h5' : (q.up == u) = false := h5
              clear h5
              go_wp2_with fail
              try go_quiet (fail)
              try go_wp2_with fail
              try go_quiet (fail)
              try go_wp2_with fail
              try go_quiet (fail)
              try go_wp2_with fail
              refine ⟨⟨i + 1, by omega, by go_num, by rw [HX.out.1], by rw [HX.out.2], ?_⟩, by simp [intOf]; omega⟩
              first | exact HB.out | exact below_drewN' HB.out _
            · skip
              have an6 := pkF_no (arB x) HQ.out h4
              obtain ⟨bn4, bn5, bn6⟩ := pk_next (kiB u) HQ.out h5
              have x1 : decide (((pkL (kiB u) L).length : Int) ≤ ((pkF (kiB u) L i).length : Int)) = false := by simp; omega
              obtain ⟨gb, rfl⟩ := own_at ob (by omega)
              have x3 := own_cell ob _ _ (ncells_get bn4)
              have x4 := pkF_len (kiB u) L i
              have x5 : ((pkF (kiB u) L i).length : Int) < ((pkL (kiB u) L).length : Int) := by omega
              have HX := Lib.hid (And.intro an6 bn6)
              clear an6 bn6 oa ob h4 bn4
              have h5' : (q.up == u) = true := h5
              clear h5
              go_wp2_with fail
              try go_quiet (fail)
              try go_wp2_with fail
              try go_quiet (fail)
              try go_wp2_with fail
              try go_quiet (fail)
              try go_wp2_with fail
              refine ⟨⟨i + 1, by omega, by go_num, by rw [HX.out.1], by rw [HX.out.2]; go_num, ?_⟩, by simp [intOf]; omega⟩
              first | exact HB.out | exact below_drewN' HB.out _
          · cases h5 : kiB u q
            · skip
              obtain ⟨an4, an5, an6⟩ := pk_next (arB x) HQ.out h4
              have v1 : decide (((pkL (arB x) L).length : Int) ≤ ((pkF (arB x) L i).length : Int)) = false := by simp; omega
              obtain ⟨ga, rfl⟩ := own_at oa (by omega)
              have v3 := own_cell oa _ _ (ncells_get an4)
              have v4 := pkF_len (arB x) L i
              have v5 : ((pkF (arB x) L i).length : Int) < ((pkL (arB x) L).length : Int) := by omega
              have bn6 := pkF_no (kiB u) HQ.out h5
              have HX := Lib.hid (And.intro an6 bn6)
              clear an6 bn6 oa ob h4 an4 
              have h5' : (q.up == u) = false := h5
              clear h5
              go_wp2_with fail
              try go_quiet (fail)
              try go_wp2_with fail
              try go_quiet (fail)
              try go_wp2_with fail
              try go_quiet (fail)
              try go_wp2_with fail
              refine ⟨⟨i + 1, by omega, by go_num, by rw [HX.out.1]; go_num, by rw [HX.out.2], ?_⟩, by simp [intOf]; omega⟩
              first | exact HB.out | exact below_drewN' HB.out _
            · skip
              obtain ⟨an4, an5, an6⟩ := pk_next (arB x) HQ.out h4
              have v1 : decide (((pkL (arB x) L).length : Int) ≤ ((pkF (arB x) L i).length : Int)) = false := by simp; omega
              obtain ⟨ga, rfl⟩ := own_at oa (by omega)
              have v3 := own_cell oa _ _ (ncells_get an4)
              have v4 := pkF_len (arB x) L i
              have v5 : ((pkF (arB x) L i).length : Int) < ((pkL (arB x) L).length : Int) := by omega
              obtain ⟨bn4, bn5, bn6⟩ := pk_next (kiB u) HQ.out h5
              have x1 : decide (((pkL (kiB u) L).length : Int) ≤ ((pkF (kiB u) L i).length : Int)) = false := by simp; omega
              obtain ⟨gb, rfl⟩ := own_at ob (by omega)
              have x3 := own_cell ob _ _ (ncells_get bn4)
              have x4 := pkF_len (kiB u) L i
              have x5 : ((pkF (kiB u) L i).length : Int) < ((pkL (kiB u) L).length : Int) := by omega
              have HX := Lib.hid (And.intro an6 bn6)
              clear an6 bn6 oa ob h4 an4 bn4
              have h5' : (q.up == u) = true := h5
              clear h5
              go_wp2_with fail
              try go_quiet (fail)
              try go_wp2_with fail
              try go_quiet (fail)
              try go_wp2_with fail
              try go_quiet (fail)
              try go_wp2_with fail
              refine ⟨⟨i + 1, by omega, by go_num, by rw [HX.out.1]; go_num, by rw [HX.out.2]; go_num, ?_⟩, by simp [intOf]; omega⟩
              first | exact HB.out | exact below_drewN' HB.out _
      · obtain rfl : i = L.length := by omega
        have e1 : (((pkF (arB x) L L.length).length : Int) == ((pkL (arB x) L).length : Int)) = true := by simp [pkL]
        have e2 : (((pkF (kiB u) L L.length).length : Int) == ((pkL (kiB u) L).length : Int)) = true := by simp [pkL]
        go_wp2_with fail
        try go_quiet (fail)
        try go_wp2_with fail
        go_ret
        exact ⟨rfl, H3.out.2.2.trans (HB.out.mono H3.out.2.2.size)⟩
end Go.Proofs.Ytjkiapgboljabaa
