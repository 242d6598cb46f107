/- Whether a part expands, as the program and as the reference have it; the same rows of parts. -/
import Derived.Test.YtjkiapgboljabaaIns
import Derived.Test.YtjkiapgboljabaaPk
import Derived.BigQuiet
namespace Go.Proofs.Ytjkiapgboljabaa
open Go.RowKit
set_option linter.unusedVariables false
set_option linter.unusedSimpArgs false
set_option maxRecDepth 100000
def expB (q : Prt) : Bool := (q.mode == 1) || (q.mode == 6) || (q.mode == 7) || (q.mode == 8) || (q.mode == 9) || ((q.mode == 12) && decide (q.fr + 1 < toP q))
theorem mx_cases (m : Int) : ((m == 1) = true ∧ (m == 6) = false ∧ (m == 7) = false ∧ (m == 8) = false ∧ (m == 9) = false ∧ (m == 12) = false) ∨
    ((m == 1) = false ∧ (m == 6) = true ∧ (m == 7) = false ∧ (m == 8) = false ∧ (m == 9) = false ∧ (m == 12) = false) ∨
    ((m == 1) = false ∧ (m == 6) = false ∧ (m == 7) = true ∧ (m == 8) = false ∧ (m == 9) = false ∧ (m == 12) = false) ∨
    ((m == 1) = false ∧ (m == 6) = false ∧ (m == 7) = false ∧ (m == 8) = true ∧ (m == 9) = false ∧ (m == 12) = false) ∨
    ((m == 1) = false ∧ (m == 6) = false ∧ (m == 7) = false ∧ (m == 8) = false ∧ (m == 9) = true ∧ (m == 12) = false) ∨
    ((m == 1) = false ∧ (m == 6) = false ∧ (m == 7) = false ∧ (m == 8) = false ∧ (m == 9) = false ∧ (m == 12) = true) ∨
    ((m == 1) = false ∧ (m == 6) = false ∧ (m == 7) = false ∧ (m == 8) = false ∧ (m == 9) = false ∧ (m == 12) = false) := by
  simp only [beq_iff_eq, beq_eq_false_iff_ne, ne_eq]
  omega
theorem decide_congr' {p q : Prop} [Decidable p] [Decidable q] (h : p ↔ q) : decide p = decide q := by
  simp only [h]
set_option maxHeartbeats 2000000 in
theorem expands_m (q : Prt) (w : World) (h0 : 0 ≤ q.fr) (h1 : q.fr ≤ 100000) (h2 : 0 ≤ toP q) (h3 : toP q ≤ 100000) :
    Calls Try.prog 58 #[.agg #[.int .i64 q.mode, .int .i64 q.fr, .int .i64 (toP q), .int .i64 q.up, .bool q.op]] w fun e w' => e = .returned (.bool (expB q)) ∧ Below w.heap.size w w' := by
  obtain ⟨X, hX⟩ : ∃ X, X = expB q := ⟨_, rfl⟩
  rw [← hX]
  unfold expB at hX
  rcases mx_cases q.mode with ⟨t1, t6, t7, t8, t9, t12⟩ | ⟨t1, t6, t7, t8, t9, t12⟩ | ⟨t1, t6, t7, t8, t9, t12⟩ | ⟨t1, t6, t7, t8, t9, t12⟩ | ⟨t1, t6, t7, t8, t9, t12⟩ | ⟨t1, t6, t7, t8, t9, t12⟩ | ⟨t1, t6, t7, t8, t9, t12⟩
  all_goals (
    rw [t1, t6, t7, t8, t9, t12] at hX
    simp only [Bool.true_or, Bool.or_true, Bool.false_or, Bool.true_and, Bool.false_and, Bool.or_false, Bool.or_self] at hX
    have HX := Lib.hid hX
    clear hX
    go_enter Try.func58, Try.ntmps58
    go_wp2_with fail
    go_ret
    refine ⟨ret_bool ?_, (Below.refl _ _).alloc (Nat.le_refl _) _⟩
    first
      | exact HX.out
      | (rw [HX.out]; done)
      | (rw [HX.out]; refine decide_congr' ?_; omega))
set_option maxHeartbeats 2000000 in
theorem expands_r (q : Prt) (w : World) (h0 : 0 ≤ q.fr) (h1 : q.fr ≤ 100000) (h2 : 0 ≤ toP q) (h3 : toP q ≤ 100000) :
    Calls Try.prog 24 #[.agg #[.int .i64 q.mode, .int .i64 q.fr, .int .i64 (toP q), .int .i64 q.up, .bool q.op]] w fun e w' => e = .returned (.bool (expB q)) ∧ Below w.heap.size w w' := by
  obtain ⟨X, hX⟩ : ∃ X, X = expB q := ⟨_, rfl⟩
  rw [← hX]
  unfold expB at hX
  rcases mx_cases q.mode with ⟨t1, t6, t7, t8, t9, t12⟩ | ⟨t1, t6, t7, t8, t9, t12⟩ | ⟨t1, t6, t7, t8, t9, t12⟩ | ⟨t1, t6, t7, t8, t9, t12⟩ | ⟨t1, t6, t7, t8, t9, t12⟩ | ⟨t1, t6, t7, t8, t9, t12⟩ | ⟨t1, t6, t7, t8, t9, t12⟩
  all_goals (
    rw [t1, t6, t7, t8, t9, t12] at hX
    simp only [Bool.true_or, Bool.or_true, Bool.false_or, Bool.true_and, Bool.false_and, Bool.or_false, Bool.or_self] at hX
    have HX := Lib.hid hX
    clear hX
    go_enter Try.func24, Try.ntmps24
    go_wp2_with fail
    go_ret
    refine ⟨ret_bool ?_, (Below.refl _ _).alloc (Nat.le_refl _) _⟩
    first
      | exact HX.out
      | (rw [HX.out]; done)
      | (rw [HX.out]; refine decide_congr' ?_; omega))
/-- Places within a text. -/
def Bnd (L : List Prt) : Prop := ∀ q ∈ L, 0 ≤ q.fr ∧ q.fr ≤ 100000 ∧ 0 ≤ toP q ∧ toP q ≤ 100000
theorem parts_bnd (l : List UInt8) (hl : l.length ≤ 900) : Bnd (partsL l) := by
  intro q hq
  obtain ⟨i, hi⟩ := List.mem_iff_getElem?.1 hq
  have hN := nest_law l i q hi
  have h1 := hN.f0
  have h2 : q.fr < toP q := hN.ft
  have h3 : toP q ≤ (l.length : Int) := hN.tn
  omega
theorem rd_part {w : World} {B n c : Nat} {A : Option Addr} {L : List Prt} (h : Rd w B 5 (.slice A n c) n (pcells L)) {i : Nat} {q : Prt} (hi : L[i]? = some q) :
    ∃ g o, A = some ⟨g, o, none⟩ ∧ g < B ∧ w.cell? ⟨g, o + i * 5, none⟩ = some (.int .i64 q.mode) ∧ w.cell? ⟨g, o + i * 5 + 1, none⟩ = some (.int .i64 q.fr) ∧ w.cell? ⟨g, o + i * 5 + 2, none⟩ = some (.int .i64 (toP q)) ∧ w.cell? ⟨g, o + i * 5 + 3, none⟩ = some (.int .i64 q.up) ∧ w.cell? ⟨g, o + i * 5 + 4, none⟩ = some (.bool q.op) := by
  have hn : n = L.length := by have h1 := h.1; rw [pcells_len] at h1; omega
  have hL := (List.getElem?_eq_some_iff.1 hi).1
  obtain ⟨g, o, rfl, hg, hc⟩ := rd_at h (by omega)
  exact ⟨g, o, rfl, hg, hc _ _ (pcells_get _ i q hi 0 _ rfl), by rw [Nat.add_assoc]; exact hc _ _ (pcells_get _ i q hi 1 _ rfl), by rw [Nat.add_assoc]; exact hc _ _ (pcells_get _ i q hi 2 _ rfl), by rw [Nat.add_assoc]; exact hc _ _ (pcells_get _ i q hi 3 _ rfl), by rw [Nat.add_assoc]; exact hc _ _ (pcells_get _ i q hi 4 _ rfl)⟩
theorem any_take {L : List Prt} {P : Prt → Bool} {k : Nat} {q : Prt} (h : L[k]? = some q) : (L.take (k + 1)).any P = ((L.take k).any P || P q) := by
  obtain ⟨hk, hq⟩ := List.getElem?_eq_some_iff.1 h
  rw [List.take_succ_eq_append_getElem hk, hq, List.any_append]
  simp
set_option maxHeartbeats 2000000 in
theorem indexFunc_m (L : List Prt) (c : Nat) (A : Option Addr) (w : World) (hL : L.length ≤ 100000) (hbd : Bnd L) (hr : Rd w w.heap.size 5 (.slice A L.length c) L.length (pcells L)) :
    Calls Try.prog 84 #[.slice A L.length c, .func (.func 58) #[] #[]] w fun e w' => (∃ r : Int, e = .returned (.int .i64 r) ∧ decide (0 ≤ r) = L.any expB ∧ -1 ≤ r ∧ r ≤ 100000) ∧ Below w.heap.size w w' := by
  have H := Lib.hid (And.intro hbd hr)
  clear hbd hr
  go_enter Try.func84, Try.ntmps84
  go_wp2_with fail
  go_loopw [8] (fun i wx => ∃ k : Nat, k ≤ L.length ∧ i = .int .i64 k ∧ (L.take k).any expB = false ∧ Below w.heap.size w wx) (fun i _ => L.length - (intOf i).toNat)
  case atStart => exact ⟨0, by omega, rfl, rfl, Below.refl _ _⟩
  case round =>
    obtain ⟨k, hk, rfl, hno, hb⟩ := hrel
    by_cases hlt : k < L.length
    · have u1 : (k : Int) < (L.length : Int) := by omega
      have u2 : (0 : Int) ≤ (k : Int) := by omega
      obtain ⟨q, hq⟩ : ∃ q, L[k]? = some q := ⟨_, List.getElem?_eq_getElem hlt⟩
      obtain ⟨g, o, rfl, hg, y0, y1, y2, y3, y4⟩ := rd_part (H.out.2.keep hb (Nat.le_refl _)) hq
      obtain ⟨q0, q1, q2, q3⟩ := H.out.1 q (List.mem_of_getElem? hq)
      have ha := any_take (P := expB) hq
      rw [hno, Bool.false_or] at ha
      have HA := Lib.hid (And.intro ha (And.intro hb (And.intro hq hno)))
      clear ha hb hq hno
      cases hx : expB q
      all_goals (
        have HX := Lib.hid hx
        clear hx
        go_wp2_with (
          (refine (expands_m q _ q0 q1 q2 q3).mono ?_
           rintro e w5 ⟨he, hb5⟩
           rw [HX.out] at he
           subst he
           have H5 := Lib.hid hb5
           clear hb5)))
      · exact ⟨⟨k + 1, by omega, by go_num, by rw [HA.out.1, HX.out], HA.out.2.1.trans (H5.out.mono HA.out.2.1.size)⟩, by simp [intOf]; omega⟩
      · go_ret
        refine ⟨⟨(k : Int), rfl, ?_, by omega, by omega⟩, HA.out.2.1.trans (H5.out.mono HA.out.2.1.size)⟩
        rw [List.any_eq_true.2 ⟨q, List.mem_of_getElem? HA.out.2.2.1, HX.out⟩]
        simp
    · obtain rfl : k = L.length := by omega
      have HA := Lib.hid (And.intro hb hno)
      clear hb hno
      go_wp2_with fail
      go_ret
      refine ⟨⟨-1, rfl, ?_, by omega, by omega⟩, HA.out.1⟩
      have h := HA.out.2
      rw [List.take_of_length_le (Nat.le_refl _)] at h
      rw [h]
      rfl
set_option maxHeartbeats 1000000 in
theorem containsFunc_m (L : List Prt) (c : Nat) (A : Option Addr) (w : World) (hL : L.length ≤ 100000) (hbd : Bnd L) (hr : Rd w w.heap.size 5 (.slice A L.length c) L.length (pcells L)) :
    Calls Try.prog 57 #[.slice A L.length c, .func (.func 58) #[] #[]] w fun e w' => e = .returned (.bool (L.any expB)) ∧ Below w.heap.size w w' := by
  have H := Lib.hid (And.intro hbd hr)
  clear hbd hr
  go_enter Try.func57, Try.ntmps57
  go_wp2_with (
    (go_at_call 84
     refine (indexFunc_m L c A _ hL H.out.1 H.out.2).mono ?_
     rintro e w1 ⟨⟨r, rfl, hr1, hr2, hr3⟩, hb1⟩
     have H1 := Lib.hid (And.intro hr1 hb1)
     clear hr1 hb1))
  go_ret
  exact ⟨ret_bool H1.out.1, H1.out.2⟩
set_option maxHeartbeats 1000000 in
theorem pexpands_m (l : List UInt8) (w : World) (hl : l.length ≤ 900) :
    Calls Try.prog 26 #[.string ⟨l.toArray⟩] w fun e w' => e = .returned (.bool ((partsL l).any expB)) ∧ Below w.heap.size w w' := by
  have hpl := parts_len l
  go_enter Try.func26, Try.ntmps26
  go_wp2_with (first
    | (go_at_call 18
       refine (of_m l _ (by omega)).mono ?_
       rintro e w2 ⟨v, rfl, ho, hb2⟩
       obtain ⟨A, n, c, rfl⟩ := own_form' ho
       obtain rfl := own_len ho
       have H := Lib.hid (And.intro ho hb2)
       clear ho hb2)
    | (go_at_call 57
       refine (containsFunc_m (partsL l) c A _ (by omega) (parts_bnd l hl) (Rd.of_own H.out.1)).mono ?_
       rintro e w3 ⟨rfl, hb3⟩
       have H3 := Lib.hid hb3
       clear hb3))
  go_ret
  exact ⟨rfl, H.out.2.trans (H3.out.mono H.out.2.size)⟩
set_option maxHeartbeats 2000000 in
theorem same_m (L : List Prt) (c c' : Nat) (A A' : Option Addr) (w : World) (hL : L.length ≤ 100000) (hr : Rd w w.heap.size 5 (.slice A L.length c) L.length (pcells L)) (hr' : Rd w w.heap.size 5 (.slice A' L.length c') L.length (pcells L)) :
    Calls Try.prog 25 #[.slice A L.length c, .slice A' L.length c'] w fun e w' => e = .returned (.bool true) ∧ Below w.heap.size w w' := by
  have H := Lib.hid (And.intro hr hr')
  clear hr hr'
  go_enter Try.func25, Try.ntmps25
  go_wp2_with fail
  go_loopw [5] (fun i wx => ∃ k : Nat, k ≤ L.length ∧ i = .int .i64 k ∧ Below w.heap.size w wx) (fun i _ => L.length - (intOf i).toNat)
  case atStart => exact ⟨0, by omega, rfl, Below.refl _ _⟩
  case round =>
    obtain ⟨k, hk, rfl, hb⟩ := hrel
    by_cases hlt : k < L.length
    · have u1 : (k : Int) < (L.length : Int) := by omega
      have u2 : (0 : Int) ≤ (k : Int) := by omega
      obtain ⟨q, hq⟩ : ∃ q, L[k]? = some q := ⟨_, List.getElem?_eq_getElem hlt⟩
      obtain ⟨g, o, rfl, hg, y0, y1, y2, y3, y4⟩ := rd_part (H.out.1.keep hb (Nat.le_refl _)) hq
      obtain ⟨g', o', rfl, hg', z0, z1, z2, z3, z4⟩ := rd_part (H.out.2.keep hb (Nat.le_refl _)) hq
      have HA := Lib.hid hb
      clear hb hq
      go_wp2_with fail
      go_quiet (fail)
      go_wp2_with fail
      exact ⟨⟨k + 1, by omega, by go_num, below_drewN' HA.out _⟩, by simp [intOf]; omega⟩
    · have HA := Lib.hid hb
      clear hb
      go_wp2_with fail
      go_ret
      exact ⟨rfl, HA.out⟩
end Go.Proofs.Ytjkiapgboljabaa
