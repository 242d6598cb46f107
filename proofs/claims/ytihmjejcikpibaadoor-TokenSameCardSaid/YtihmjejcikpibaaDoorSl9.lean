/- TokenSame: the walk. Two lexings are the same just if all of them is. -/
import Derived.Test.YtihmjejcikpibaaDoorAw9
import Derived.Test.YtihmjejcikpibaaDoorSm9
namespace Go.Proofs.YtihmjejcikpibaaDoor
open Go.RowKit
set_option linter.unusedVariables false
set_option linter.unusedSimpArgs false
set_option maxRecDepth 100000
abbrev lxa (X : Lx) (A : Option Addr) (c : Nat) : Value := .agg #[.int .i64 X.aw, .slice A X.pd.length c, .bool X.bd]
set_option maxHeartbeats 4000000 in
theorem tokenSame_w (X : Lx) (A : Option Addr) (c : Nat) (Y : Lx) (A' : Option Addr) (c' : Nat) (w : World)
    (hL : Rd w w.heap.size 2 (.slice A X.pd.length c) X.pd.length (dcls X.pd)) (hl : X.pd.length ≤ 9223372036854775807)
    (hM : Rd w w.heap.size 2 (.slice A' Y.pd.length c') Y.pd.length (dcls Y.pd)) (hl' : Y.pd.length ≤ 9223372036854775807) :
    Calls Tryd.prog 6 #[lxa X A c, lxa Y A' c'] w fun e w' => e = .returned (.bool true) ∧ Below w.heap.size w w' := by
  have c1 : ∀ W, Below w.heap.size w W → Calls Tryd.prog 13 #[lxa X A c, lxa Y A' c'] W fun e w' => e = .returned (.bool (sameL X Y)) ∧ Below W.heap.size W w' :=
    fun W hb => same9_m X Y A A' c c' W (hL.keep hb (Nat.le_refl _) |>.mono hb.size) (hM.keep hb (Nat.le_refl _) |>.mono hb.size) hl hl'
  have c2 : ∀ W, Below w.heap.size w W → Calls Tryd.prog 14 #[lxa X A c, lxa Y A' c'] W fun e w' => e = .returned (.bool (sameL X Y)) ∧ Below W.heap.size W w' :=
    fun W hb => same9_r X Y A A' c c' W (hL.keep hb (Nat.le_refl _) |>.mono hb.size) (hM.keep hb (Nat.le_refl _) |>.mono hb.size) hl hl'
  have c3 : ∀ W, Below w.heap.size w W → Calls Tryd.prog 13 #[lxa X A c, lxa X A c] W fun e w' => e = .returned (.bool true) ∧ Below W.heap.size W w' := fun W hb => by
    have h := same9_m X X A A c c W (hL.keep hb (Nat.le_refl _) |>.mono hb.size) (hL.keep hb (Nat.le_refl _) |>.mono hb.size) hl hl
    rwa [(sameL_iff X X).2 rfl] at h
  obtain ⟨s, hs⟩ : ∃ s, s = sameL X Y := ⟨_, rfl⟩
  rw [← hs] at c1 c2
  obtain ⟨xa, L, xb⟩ := X
  obtain ⟨ya, M, yb⟩ := Y
  have d1 : ∀ W, Below w.heap.size w W → Calls Tryd.prog 13 #[.agg #[.int .i64 xa, .slice A L.length c, .bool xb], .agg #[.int .i64 ya, .slice A' M.length c', .bool yb]] W fun e w' => e = .returned (.bool s) ∧ Below W.heap.size W w' := c1
  have d2 : ∀ W, Below w.heap.size w W → Calls Tryd.prog 14 #[.agg #[.int .i64 xa, .slice A L.length c, .bool xb], .agg #[.int .i64 ya, .slice A' M.length c', .bool yb]] W fun e w' => e = .returned (.bool s) ∧ Below W.heap.size W w' := c2
  have d3 : ∀ W, Below w.heap.size w W → Calls Tryd.prog 13 #[.agg #[.int .i64 xa, .slice A L.length c, .bool xb], .agg #[.int .i64 xa, .slice A L.length c, .bool xb]] W fun e w' => e = .returned (.bool true) ∧ Below W.heap.size W w' := c3
  have HC := Lib.hid (And.intro d1 (And.intro d2 d3))
  clear c1 c2 c3 d1 d2 d3 hs hL hM
  by_cases hlong : 20 < L.length ∨ 20 < M.length
  · have k3 : (decide ((20 : Int) < (L.length : Int)) = true) ∨ (decide ((20 : Int) < (L.length : Int)) = false ∧ decide ((20 : Int) < (M.length : Int)) = true) := by
      simp only [decide_eq_true_eq, decide_eq_false_iff_not]; omega
    unfold lxa
    rcases k3 with k1 | ⟨k1, k2⟩ <;>
    · go_enter Tryd.func6, Tryd.ntmps6
      go_wp2_with (go_at_call 8
                   refine (awake9_c _).mono ?_
                   rintro e w1 ⟨rfl, hb1⟩
                   have hb0 := ((Below.refl w.heap.size w).alloc (Nat.le_refl _) (.cells #[.int .i64 xa, .slice A L.length c, .bool xb] 26)).alloc (by simp) (.cells #[.int .i64 ya, .slice A' M.length c', .bool yb] 26)
                   have hb2 := hb0.trans (hb1.mono hb0.size)
                   have q1 := ((Bk.new w _ _).alloc _).below hb1 (by simp <;> omega)
                   have q2 := (bk_second w #[.int .i64 xa, .slice A L.length c, .bool xb] _ 26 _).below hb1 (by simp <;> omega)
                   obtain ⟨y0, y1, y2, _⟩ := q1.three
                   obtain ⟨z0, z1, z2, _⟩ := q2.three
                   have H := Lib.hid hb2
                   clear hb0 hb1 hb2 q1 q2)
      go_ret
      exact ⟨rfl, H.out⟩
  · have l1 : L.length ≤ 20 := by omega
    have l2 : M.length ≤ 20 := by omega
    have k1 : decide ((20 : Int) < (L.length : Int)) = false := by simp; omega
    have k2 : decide ((20 : Int) < (M.length : Int)) = false := by simp; omega
    unfold lxa
    go_enter Tryd.func6, Tryd.ntmps6
    go_upto_region 5 with (
      (go_at_call 8
       refine (awake9_c _).mono ?_
       rintro e w1 ⟨rfl, hb1⟩
       have hb0 := ((Below.refl w.heap.size w).alloc (Nat.le_refl _) (.cells #[.int .i64 xa, .slice A L.length c, .bool xb] 26)).alloc (by simp) (.cells #[.int .i64 ya, .slice A' M.length c', .bool yb] 26)
       have hb2 := hb0.trans (hb1.mono hb0.size)
       have q1 := ((Bk.new w _ _).alloc _).below hb1 (by simp <;> omega)
       have q2 := (bk_second w #[.int .i64 xa, .slice A L.length c, .bool xb] _ 26 _).below hb1 (by simp <;> omega)
       obtain ⟨y0, y1, y2, _⟩ := q1.three
       obtain ⟨z0, z1, z2, _⟩ := q2.three
       have HW := Lib.hid (And.intro hb2 (And.intro q1 q2))
       clear hb0 hb1 hb2 q1 q2))
    clear k1 k2
    have HV := HW
    have HW : Hid (Below w.heap.size w w1.drew ∧ Bk w1.drew w.heap.size 26 #[.int .i64 xa, .slice A L.length c, .bool xb] ∧ Bk w1.drew (w.heap.size + 1) 26 #[.int .i64 ya, .slice A' M.length c', .bool yb]) := Lib.hid ⟨below_drewN' HV.out.1 1, HV.out.2.1, HV.out.2.2⟩
    clear HV
    cases s
    all_goals (
      go_region_held3 (fun w' => w'.cell? ⟨w.heap.size, 0, none⟩ = some (.int .i64 xa) ∧ w'.cell? ⟨w.heap.size, 1, none⟩ = some (.slice A L.length c) ∧ w'.cell? ⟨w.heap.size, 2, none⟩ = some (.bool xb) ∧
          w'.cell? ⟨w.heap.size + 1, 0, none⟩ = some (.int .i64 ya) ∧ w'.cell? ⟨w.heap.size + 1, 1, none⟩ = some (.slice A' M.length c') ∧ w'.cell? ⟨w.heap.size + 1, 2, none⟩ = some (.bool yb))
        (first
          | with_reducible exact ⟨y0, y1, y2, z0, z1, z2⟩
          | go_keep)
        (first
          | (go_at_call 13
             with_reducible refine (HC.out.1 _ ?_).mono ?_
             · exact HW.out.1
             rintro e w5 ⟨rfl, hb5⟩
             have hb6 := HW.out.1.trans (hb5.mono HW.out.1.size)
             have q1 := HW.out.2.1.below hb5 HW.out.2.1.lt
             have q2 := HW.out.2.2.below hb5 HW.out.2.2.lt
             obtain ⟨y0, y1, y2, _⟩ := q1.three
             obtain ⟨z0, z1, z2, _⟩ := q2.three
             have HW := Lib.hid (And.intro hb6 (And.intro q1 q2))
             clear hb5 hb6 q1 q2)
          | (go_at_call 14
             with_reducible refine (HC.out.2.1 _ ?_).mono ?_
             · exact HW.out.1
             rintro e w5 ⟨rfl, hb5⟩
             have hb6 := HW.out.1.trans (hb5.mono HW.out.1.size)
             have q1 := HW.out.2.1.below hb5 HW.out.2.1.lt
             have q2 := HW.out.2.2.below hb5 HW.out.2.2.lt
             obtain ⟨y0, y1, y2, _⟩ := q1.three
             obtain ⟨z0, z1, z2, _⟩ := q2.three
             have HW := Lib.hid (And.intro hb6 (And.intro q1 q2))
             clear hb5 hb6 q1 q2)
          | (go_at_call 13
             with_reducible refine (HC.out.2.2 _ ?_).mono ?_
             · exact HW.out.1
             rintro e w5 ⟨rfl, hb5⟩
             have hb6 := HW.out.1.trans (hb5.mono HW.out.1.size)
             have q1 := HW.out.2.1.below hb5 HW.out.2.1.lt
             have q2 := HW.out.2.2.below hb5 HW.out.2.2.lt
             obtain ⟨y0, y1, y2, _⟩ := q1.three
             obtain ⟨z0, z1, z2, _⟩ := q2.three
             have HW := Lib.hid (And.intro hb6 (And.intro q1 q2))
             clear hb5 hb6 q1 q2)))
    all_goals (
      go_wp2_with fail
      go_ret
      exact ⟨rfl, HW.out.1⟩)
end Go.Proofs.YtihmjejcikpibaaDoor
