/- Package token: document, the token of a here-document. -/
import Derived.Test.YtihmjejcikpibaaDoorBh9
import Derived.Test.YtihmjejcikpibaaDoorSt9
namespace Go.Proofs.YtihmjejcikpibaaDoor
open Go.RowKit
set_option linter.unusedVariables false
set_option linter.unusedSimpArgs false
set_option maxRecDepth 100000
/-- A token and a lexing are stored into their boxes. -/
theorem fin_td {w w2 : World} {B1 B2 : Nat} {t1 t2 : TypeId} {u0 u1 u2 u3 z0 z1 z2 : Value} (a0 a1 a2 a3 b0 b1 b2 : Value) (k1 : Bk w2 B1 t1 #[u0, u1, u2, u3]) (k2 : Bk w2 B2 t2 #[z0, z1, z2]) (hne : B1 ≠ B2) (hbw : Below w.heap.size w w2) (h1 : w.heap.size ≤ B1) (h2 : w.heap.size ≤ B2) :
    ∀ W5, W5 = ((((((w2.setCell ⟨B1, 0, none⟩ a0).setCell ⟨B1, 1, none⟩ a1).setCell ⟨B1, 2, none⟩ a2).setCell ⟨B1, 3, none⟩ a3).setCell ⟨B2, 0, none⟩ b0).setCell ⟨B2, 1, none⟩ b1).setCell ⟨B2, 2, none⟩ b2 →
      Bk W5 B1 t1 #[a0, a1, a2, a3] ∧ Bk W5 B2 t2 #[b0, b1, b2] ∧ Below w.heap.size w W5 ∧ ∀ {e : TypeId} {n : Nat} {v : Value} {xs : List Value}, Rt w2 e 2 v n xs → e ≠ t1 → e ≠ t2 → Rt W5 e 2 v n xs := by
  rintro W5 rfl
  refine ⟨((((((k1.set 0 a0).set 1 a1).set 2 a2).set 3 a3).far (p := ⟨B2, 0, none⟩) hne b0).far (p := ⟨B2, 1, none⟩) hne b1).far (p := ⟨B2, 2, none⟩) hne b2, ?_, ?_, ?_⟩
  · have hne' : B2 ≠ B1 := fun h => hne h.symm
    exact (((((((k2.far (p := ⟨B1, 0, none⟩) hne' a0).far (p := ⟨B1, 1, none⟩) hne' a1).far (p := ⟨B1, 2, none⟩) hne' a2).far (p := ⟨B1, 3, none⟩) hne' a3).set 0 b0).set 1 b1).set 2 b2)
  · exact ((((((hbw.setCell (p := ⟨B1, 0, none⟩) h1 _).setCell (p := ⟨B1, 1, none⟩) h1 _).setCell (p := ⟨B1, 2, none⟩) h1 _).setCell (p := ⟨B1, 3, none⟩) h1 _).setCell (p := ⟨B2, 0, none⟩) h2 _).setCell (p := ⟨B2, 1, none⟩) h2 _).setCell (p := ⟨B2, 2, none⟩) h2 _
  · intro e n v xs hr g1 g2
    have hne' : B2 ≠ B1 := fun h => hne h.symm
    have ka := ((((k2.far (p := ⟨B1, 0, none⟩) hne' a0).far (p := ⟨B1, 1, none⟩) hne' a1).far (p := ⟨B1, 2, none⟩) hne' a2).far (p := ⟨B1, 3, none⟩) hne' a3)
    have ha := hr.keep (grown_set (grown_set (grown_set (grown_set (grown_refl w2 (some B1)) 0 a0) 1 a1) 2 a2) 3 a3) (k1.row g1)
    exact ha.keep (grown_set (grown_set (grown_set (grown_refl _ (some B2)) 0 b0) 1 b1) 2 b2) (ka.row g2)
set_option maxHeartbeats 4000000 in
theorem document_m (l : List UInt8) (x : Nat) (X : Lx) (d : Dl) (r : List Dl) (A : Option Addr) (n c : Nat) (w : World) (hl : l.length ≤ 900) (hx : x < l.length) (hX : X.pd = d :: r) (hn : n = r.length + 1) (hv0 : Rt w 36 2 (.slice A n c) n (dcls (d :: r))) (hl2 : n ≤ 10000) :
    Calls Tryd.prog 25 #[.string ⟨l.toArray⟩, .int .i64 (x : Int), lxv X.aw (.slice A n c) X.bd] w fun e w' => ∃ v, e = .returned (.tuple #[tkv (docL l x X d r).1, v]) ∧ LxP w' (docL l x X d r).2 v ∧ Below w.heap.size w w' := by
  have hv := hv0.rd
  unfold lxv
  obtain ⟨g, o, rfl, hg, hnc, hcm, y0, y1⟩ := rd_first hv hn
  have ht := rd_tail hv hn
  obtain ⟨H, hH⟩ : ∃ H, H = hereL l x d.1 d.2 := ⟨_, rfl⟩
  have hD : docL l x X d r = if H.2 = true then (⟨7, x, H.1, false⟩, ⟨X.aw, r, !r.isEmpty⟩) else (⟨7, x, H.1, true⟩, X) := by rw [hH]; rfl
  rw [hD]
  have HV := Lib.hid (And.intro hv (And.intro ht (And.intro hn (And.intro hH hX))))
  have HV0 := Lib.hid hv0
  clear hv ht hn hH hD hX hv0
  have g1 : g < w.heap.size + 1 := by omega
  have g2 : g < w.heap.size + 1 + 1 := by omega
  have n0 : 0 < n := by have := HV.out.2.2.1; omega
  have n1 : (0 : Int) < (n : Int) := by omega
  cases hb : H.2
  · simp only [hb, Bool.false_eq_true, if_false]
    have HB := Lib.hid hb
    clear hb
    go_enter Tryd.func25, Tryd.ntmps25
    go_wp2_with (
      (go_at_call 28
       refine (here_m l d.1 d.2 x _ (by omega) (by omega)).mono ?_
       rintro e w2 ⟨he, hb2⟩
       rw [← HV.out.2.2.2.1, HB.out] at he
       subst he
       have k0 : Bk w2 w.heap.size 26 #[.int .i64 X.aw, .slice (some ⟨g, o, none⟩) n c, .bool X.bd] := (((Bk.new w _ _).alloc _).alloc _).below hb2 (by simp <;> omega)
       have k1 : Bk w2 (w.heap.size + 1) 30 #[.int .i64 0, .int .i64 0, .int .i64 0, .bool false] := ((bk_second w _ _ _ _).alloc _).below hb2 (by simp <;> omega)
       have k2 : Bk w2 (w.heap.size + 1 + 1) 26 #[.int .i64 0, .slice none 0 0, .bool false] := (show Bk _ (w.heap.size + 1 + 1) _ _ by simpa using Bk.new ((w.alloc _).alloc _) 26 _).below hb2 (by simp <;> omega)
       have hbw : Below w.heap.size w w2 := ((((Below.refl _ w).alloc (Nat.le_refl _) _).alloc (by simp) _).alloc (by simp <;> omega) _).trans (hb2.mono (by simp <;> omega))
       have hsz : w.heap.size + 3 ≤ w2.heap.size := by have := hb2.size; simpa using this
       have s0 : w.heap.size < w2.heap.size := by omega
       have s1 : w.heap.size + 1 < w2.heap.size := by omega
       have s2 : w.heap.size + 1 + 1 < w2.heap.size := by omega
       obtain ⟨p0, p1, p2, p3, p4, p5⟩ := k0.three
       obtain ⟨q0, q1, q2, q3, q4, q5, q6, q7⟩ := k1.four
       obtain ⟨r0, r1, r2, r3, r4, r5⟩ := k2.three
       have H2 := Lib.hid (And.intro k0 (And.intro k1 (And.intro k2 hbw)))
       clear hb2 k0 k1 k2 hbw))
    go_region
    all_goals (
      obtain ⟨m1, m2, mb, _⟩ := fin_td (.int .i64 7) (.int .i64 (x : Int)) (.int .i64 (H.1 : Int)) (.bool true) (.int .i64 X.aw) (.slice (some ⟨g, o, none⟩) n c) (.bool X.bd) H2.out.2.1 H2.out.2.2.1 (by omega) H2.out.2.2.2 (by omega) (by omega) _ rfl
      generalize World.setCell _ _ _ = W5 at m1 m2 mb ⊢
      obtain ⟨q0, q1, q2, q3, _⟩ := (m1.alloc (.cells #[.int .i64 7, .int .i64 (x : Int), .int .i64 (H.1 : Int), .bool true] 30)).drew.four
      obtain ⟨r0, r1, r2, _⟩ := (m2.alloc (.cells #[.int .i64 7, .int .i64 (x : Int), .int .i64 (H.1 : Int), .bool true] 30)).drew.three
      have hbF := (below_drewN' (mb.alloc mb.size (.cells #[.int .i64 7, .int .i64 (x : Int), .int .i64 (H.1 : Int), .bool true] 30)) 1)
      go_wp2
      refine bodyPost_ret (v := .tuple #[tkv ⟨7, x, H.1, true⟩, lxv X.aw (.slice (some ⟨g, o, none⟩) n c) X.bd]) (by simp [results, Tryd.results25, go_sem, lxv, tkv, q0, q1, q2, q3, r0, r1, r2]) rfl ?_
      refine ⟨_, rfl, ⟨_, rfl, ?_⟩, hbF⟩
      rw [HV.out.2.2.2.2, List.length_cons, ← HV.out.2.2.1]
      exact HV0.out.next hbF)
  · simp only [hb, if_true]
    have HB := Lib.hid hb
    clear hb
    have hrl : r.length = n - 1 := by have := HV.out.2.2.1; omega
    have hR1 : Rd w w.heap.size 2 (.slice (if c = 1 then some ⟨g, o, none⟩ else some ⟨g, o + 2, none⟩) (n - 1) (c - 1)) (n - 1) (dcls r) := by
      by_cases hc : c = 1
      · obtain rfl : r = [] := List.eq_nil_of_length_eq_zero (by omega)
        have : n - 1 = 0 := by have := hrl; simp at this; omega
        rw [this, if_pos hc, hc]
        exact ⟨rfl, some ⟨g, o, none⟩, 0, rfl, Nat.le_refl _, by unfold maxLen; omega, (fun h => by cases h), fun h => by simp at h⟩
      · rw [if_neg hc]
        have := HV.out.2.1
        rwa [hrl] at this
    have HR := Lib.hid hR1
    have hlast : (decide (0 < n - 1)) = !r.isEmpty := by rw [← hrl]; cases r <;> rfl
    have HL := Lib.hid hlast
    clear hR1 hlast
    have c1 : (1 : Int) ≤ (n : Int) := by omega
    have c2 : (n : Int) ≤ (c : Int) := by omega
    go_enter Tryd.func25, Tryd.ntmps25
    go_wp2_with (first
      | (go_at_call 28
         refine (here_m l d.1 d.2 x _ (by omega) (by omega)).mono ?_
         rintro e w2 ⟨he, hb2⟩
         rw [← HV.out.2.2.2.1, HB.out] at he
         subst he
         have k0 : Bk w2 w.heap.size 26 #[.int .i64 X.aw, .slice (some ⟨g, o, none⟩) n c, .bool X.bd] := (((Bk.new w _ _).alloc _).alloc _).below hb2 (by simp <;> omega)
         have k1 : Bk w2 (w.heap.size + 1) 30 #[.int .i64 0, .int .i64 0, .int .i64 0, .bool false] := ((bk_second w _ _ _ _).alloc _).below hb2 (by simp <;> omega)
         have k2 : Bk w2 (w.heap.size + 1 + 1) 26 #[.int .i64 0, .slice none 0 0, .bool false] := (show Bk _ (w.heap.size + 1 + 1) _ _ by simpa using Bk.new ((w.alloc _).alloc _) 26 _).below hb2 (by simp <;> omega)
         have hbw : Below w.heap.size w w2 := ((((Below.refl _ w).alloc (Nat.le_refl _) _).alloc (by simp) _).alloc (by simp <;> omega) _).trans (hb2.mono (by simp <;> omega))
         have hsz : w.heap.size + 3 ≤ w2.heap.size := by have := hb2.size; simpa using this
         have s0 : w.heap.size < w2.heap.size := by omega
         have s1 : w.heap.size + 1 < w2.heap.size := by omega
         have s2 : w.heap.size + 1 + 1 < w2.heap.size := by omega
         obtain ⟨p0, p1, p2, p3, p4, p5⟩ := k0.three
         obtain ⟨q0, q1, q2, q3, q4, q5, q6, q7⟩ := k1.four
         obtain ⟨r0, r1, r2, r3, r4, r5⟩ := k2.three
         have H2 := Lib.hid (And.intro k0 (And.intro k1 (And.intro k2 hbw)))
         clear hb2 k0 k1 k2 hbw)
      | (go_at_call 29
         refine (clone9_m r _ (n - 1) (c - 1) _ hrl.symm ((HR.out.keep (H2.out.2.2.2.alloc H2.out.2.2.2.size _) (Nat.le_refl _)).mono (by have := H2.out.2.2.2.size; simp; omega)) (by omega)).mono ?_
         rintro e w3 ⟨v1, rfl, hown, hb3⟩
         have k0 := (H2.out.1.alloc _).below hb3 (by simp <;> omega)
         have k1 := (H2.out.2.1.alloc _).below hb3 (by simp <;> omega)
         have k2 := (H2.out.2.2.1.alloc _).below hb3 (by simp <;> omega)
         have k3 : Bk w3 w2.heap.size 30 #[.int .i64 7, .int .i64 (x : Int), .int .i64 (H.1 : Int), .bool false] := (Bk.new w2 _ _).below hb3 (by simp)
         have hbw : Below w.heap.size w w3 := (H2.out.2.2.2.alloc H2.out.2.2.2.size _).trans (hb3.mono (by have := H2.out.2.2.2.size; simp; omega))
         have hown : w3.ownsRow (w2.heap.size + 1) 36 2 v1 (n - 1) (dcls r) := by simpa using hown
         obtain ⟨A1, n1, c1', rfl⟩ := own_form' hown
         obtain rfl := own_len hown
         have e0 := k0.lt
         have e1 := k1.lt
         have e2 := k2.lt
         have e3 := k3.lt
         obtain ⟨p0, p1, p2, p3, p4, p5⟩ := k0.three
         obtain ⟨q0, q1, q2, q3, q4, q5, q6, q7⟩ := k1.four
         obtain ⟨r0, r1, r2, r3, r4, r5⟩ := k2.three
         obtain ⟨m0, m1, m2, m3, _⟩ := k3.four
         have H3 := Lib.hid (And.intro k1 (And.intro k2 (And.intro hbw hown)))
         clear hb3 k0 k1 k2 k3 hbw hown))
    all_goals go_region
    all_goals (
      obtain ⟨m1, m2, mb, mo⟩ := fin_td (.int .i64 7) (.int .i64 (x : Int)) (.int .i64 (H.1 : Int)) (.bool false) (.int .i64 X.aw) (.slice A1 (n - 1) c1') (.bool (decide (0 < n - 1))) H3.out.1 H3.out.2.1 (by omega) H3.out.2.2.1 (by omega) (by omega) _ rfl
      have mo := mo (Rt.of_own H3.out.2.2.2) (by decide) (by decide)
      generalize World.setCell _ _ _ = W5 at m1 m2 mb mo ⊢
      obtain ⟨q0, q1, q2, q3, _⟩ := m1.drew.four
      obtain ⟨r0, r1, r2, _⟩ := m2.drew.three
      have hbF := below_drewN' mb 1
      go_wp2
      refine bodyPost_ret (v := .tuple #[tkv ⟨7, x, H.1, false⟩, lxv X.aw (.slice A1 (n - 1) c1') (decide (0 < n - 1))]) (by simp [results, Tryd.results25, go_sem, lxv, tkv, q0, q1, q2, q3, r0, r1, r2]) rfl ?_
      refine ⟨_, rfl, ⟨_, by rw [HL.out], ?_⟩, hbF⟩
      rw [hrl]
      exact mo.next (below_drewN' (Below.refl _ _) 1))
end Go.Proofs.YtihmjejcikpibaaDoor
