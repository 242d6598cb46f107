/- TokenAhead: the walk. Of two texts with one beginning the tokens that end two bytes ahead of that beginning's end, or farther ahead, are the same. -/
import Derived.Test.YtihmjejcikpibaaDoorAw9
import Derived.Test.YtihmjejcikpibaaDoorTp9
namespace Go.Proofs.YtihmjejcikpibaaDoor
open Go.RowKit
set_option linter.unusedVariables false
set_option linter.unusedSimpArgs false
set_option maxRecDepth 100000
/-- The plain law, both ways. -/
theorem ahead_get (a b c : List UInt8) (k : Nat) (t : Tk) (h : (lexL (a ++ b)).1[k]? = some t) (ht : t.to + 2 ≤ a.length) : (lexL (a ++ c)).1[k]? = some t :=
  (lex_ahead (Ag.app a b c) k 0 lx0 t h ht (Nat.zero_le _)).1
set_option maxHeartbeats 4000000 in
theorem tokenAhead_w (a b c : List UInt8) (w : World) (ha : a.length ≤ 9223372036854775807) (hb : b.length ≤ 9223372036854775807) (hc : c.length ≤ 9223372036854775807) :
    Calls Tryd.prog 3 #[.string ⟨a.toArray⟩, .string ⟨b.toArray⟩, .string ⟨c.toArray⟩] w fun e w' => e = .returned (.bool true) ∧ Below w.heap.size w w' := by
  by_cases hlong : 100 < a.length ∨ 100 < b.length ∨ 100 < c.length
  · have k3 : (decide ((100 : Int) < (a.length : Int)) = true) ∨ (decide ((100 : Int) < (a.length : Int)) = false ∧ decide ((100 : Int) < (b.length : Int)) = true) ∨ (decide ((100 : Int) < (a.length : Int)) = false ∧ decide ((100 : Int) < (b.length : Int)) = false ∧ decide ((100 : Int) < (c.length : Int)) = true) := by
      simp only [decide_eq_true_eq, decide_eq_false_iff_not]; omega
    rcases k3 with k1 | ⟨k1, k2⟩ | ⟨k1, k2, k3⟩ <;>
    · go_enter Tryd.func3, Tryd.ntmps3
      go_wp2_with (go_at_call 8
                   refine (awake9_c _).mono ?_
                   rintro e w1 ⟨rfl, hb1⟩
                   have H := Lib.hid hb1
                   clear hb1)
      go_ret
      exact ⟨rfl, H.out⟩
  · have ha1 : a.length ≤ 100 := by omega
    have hb1 : b.length ≤ 100 := by omega
    have hc1 : c.length ≤ 100 := by omega
    have k1 : decide ((100 : Int) < (a.length : Int)) = false := by simp; omega
    have k2 : decide ((100 : Int) < (b.length : Int)) = false := by simp; omega
    have k3 : decide ((100 : Int) < (c.length : Int)) = false := by simp; omega
    have hg := ahead_get a b c
    have hg' := ahead_get a c b
    have l1 : ∀ W, Calls Tryd.prog 9 #[.string (⟨a.toArray⟩ ++ ⟨b.toArray⟩)] W fun e w' => ∃ v1 v2, e = .returned (.tuple #[v1, v2]) ∧ w'.ownsRow W.heap.size 30 4 v1 (lexL (a ++ b)).1.length (tkcs (lexL (a ++ b)).1) ∧ LxP w' (lexL (a ++ b)).2 v2 ∧ Below W.heap.size W w' := by
      intro W; rw [ba_append]; exact lex_m _ W (by simp; omega)
    have l2 : ∀ W, Calls Tryd.prog 9 #[.string (⟨a.toArray⟩ ++ ⟨c.toArray⟩)] W fun e w' => ∃ v1 v2, e = .returned (.tuple #[v1, v2]) ∧ w'.ownsRow W.heap.size 30 4 v1 (lexL (a ++ c)).1.length (tkcs (lexL (a ++ c)).1) ∧ LxP w' (lexL (a ++ c)).2 v2 ∧ Below W.heap.size W w' := by
      intro W; rw [ba_append]; exact lex_m _ W (by simp; omega)
    have tl : (lexL (a ++ b)).1.length ≤ 200 := by have := lexL_len (a ++ b); simp at this; omega
    have ul : (lexL (a ++ c)).1.length ≤ 200 := by have := lexL_len (a ++ c); simp at this; omega
    obtain ⟨T, hT⟩ : ∃ T, T = (lexL (a ++ b)).1 := ⟨_, rfl⟩
    obtain ⟨U, hU⟩ : ∃ U, U = (lexL (a ++ c)).1 := ⟨_, rfl⟩
    obtain ⟨X, hX⟩ : ∃ X, X = (lexL (a ++ b)).2 := ⟨_, rfl⟩
    obtain ⟨Y, hY⟩ : ∃ Y, Y = (lexL (a ++ c)).2 := ⟨_, rfl⟩
    rw [← hT] at tl
    rw [← hU] at ul
    rw [← hT, ← hX] at l1
    rw [← hU, ← hY] at l2
    rw [← hT, ← hU] at hg hg'
    clear hT hU hX hY
    have HL := Lib.hid (And.intro l1 l2)
    have HG := Lib.hid (And.intro hg hg')
    clear l1 l2 hg hg'
    have ov : ¬ 9223372036854775807 < a.length + b.length := by omega
    have ov2 : ¬ 9223372036854775807 < a.length + c.length := by omega
    go_enter Tryd.func3, Tryd.ntmps3
    go_wp2_with (first
      | (go_at_call 8
         refine (awake9_c _).mono ?_
         rintro e w1 ⟨rfl, hb⟩
         have H := Lib.hid hb
         clear hb)
      | (go_at_call 9
         with_reducible refine (HL.out.1 _).mono ?_
         rintro e w2 ⟨v1, v2, rfl, ho, ⟨v3, rfl, hr⟩, hb2⟩
         obtain ⟨A3, c3, rfl⟩ := hr.form
         unfold lxv
         obtain ⟨A, n, c0, rfl⟩ := own_form' ho
         obtain rfl := own_len ho
         have H2 := Lib.hid (And.intro ho hb2)
         clear ho hb2 hr)
      | (go_at_call 9
         with_reducible refine (HL.out.2 _).mono ?_
         rintro e w4 ⟨v1, v2, rfl, ho, ⟨v3, rfl, hr⟩, hb2⟩
         obtain ⟨A5, c5, rfl⟩ := hr.form
         unfold lxv
         obtain ⟨A4, n, c4, rfl⟩ := own_form' ho
         obtain rfl := own_len ho
         have H4 := Lib.hid (And.intro ho hb2)
         clear ho hb2 hr))
    refine gen1 fun W hbW hkW hsW => ?_
    have hT0 : W.ownsRow w1.heap.size 30 4 (.slice A T.length c0) T.length (tkcs T) := own_below (own_below (own_below H2.out.1 (Below.alloc (Below.refl _ _) (Nat.le_refl _) _)) H4.out.2) hbW
    have hU0 : W.ownsRow (w2.heap.size + 1) 30 4 (.slice A4 U.length c4) U.length (tkcs U) := by
      have := own_below H4.out.1 hbW
      simpa using this
    have hbw : Below w.heap.size w W := by
      have h1 := H.out.trans (H2.out.2.mono H.out.size)
      have h2 := h1.alloc h1.size (.cells #[.int .i64 X.aw, .slice A3 X.pd.length c3, .bool X.bd] 26)
      have h3 := h2.trans (H4.out.2.mono h2.size)
      exact h3.trans (hbW.mono h3.size)
    have HW := Lib.hid (And.intro hT0 (And.intro hU0 hbw))
    clear hT0 hU0 hbw hbW hkW hsW
    go_loopw [11] (fun i wr => ∃ k : Nat, k ≤ T.length ∧ i = .int .i64 k ∧ Below W.heap.size W wr) (fun i _ => T.length - (intOf i).toNat)
    case atStart => exact ⟨0, Nat.zero_le _, rfl, Below.refl _ _⟩
    case round =>
      obtain ⟨k, hk, rfl, hb⟩ := hrel
      have hoT := own_below HW.out.1 hb
      have hoU := own_below HW.out.2.1 hb
      have hpost : Below w.heap.size w wr := HW.out.2.2.trans (hb.mono HW.out.2.2.size)
      by_cases hgo : ∃ t, T[k]? = some t ∧ t.to + 2 ≤ a.length
      · obtain ⟨t, hget, ht⟩ := hgo
        have hu := HG.out.1 k t hget ht
        have hkT := (List.getElem?_eq_some_iff.1 hget).1
        have hkU := (List.getElem?_eq_some_iff.1 hu).1
        obtain ⟨g, rfl, y0, y1, y2, y3⟩ := own_tk hoT hget hkT
        obtain ⟨g', rfl, z0, z1, z2, z3⟩ := own_tk hoU hu hkU
        have u1 : (k : Int) < (T.length : Int) := by omega
        have u2 : (k : Int) < (U.length : Int) := by omega
        have u3 : (0 : Int) ≤ (k : Int) := by omega
        have u4 : decide ((U.length : Int) ≤ (k : Int)) = false := by simp; omega
        have u5 : (t.to : Int) ≤ (a.length : Int) - 2 := by omega
        have HB := Lib.hid (And.intro hb hpost)
        clear hb hpost hoT hoU hget hu
        go_wp2_with fail
        go_quiet (fail)
        go_wp2_with fail
        exact ⟨⟨k + 1, by omega, by go_num, below_drewN' HB.out.1 _⟩, by simp [intOf]; omega⟩
      · have hstop : ∀ u, U[k]? = some u → a.length < u.to + 2 := fun u hu => Nat.lt_of_not_le fun h => hgo ⟨u, HG.out.2 k u hu h, h⟩
        have hfirst : (¬ (k : Int) < (T.length : Int)) ∨ ∃ t, T[k]? = some t ∧ (k : Int) < (T.length : Int) ∧ k < T.length ∧ ¬ (t.to : Int) ≤ (a.length : Int) - 2 := by
          by_cases hlt : k < T.length
          · refine .inr ⟨_, List.getElem?_eq_getElem hlt, by omega, hlt, fun h => hgo ⟨_, List.getElem?_eq_getElem hlt, by omega⟩⟩
          · exact .inl (by omega)
        clear hgo
        by_cases hkU : k < U.length
        · obtain ⟨u, hu⟩ : ∃ u, U[k]? = some u := ⟨_, List.getElem?_eq_getElem hkU⟩
          have hs := hstop u hu
          obtain ⟨g', rfl, z0, z1, z2, z3⟩ := own_tk hoU hu hkU
          have u2 : (k : Int) < (U.length : Int) := by omega
          have u3 : (0 : Int) ≤ (k : Int) := by omega
          have u4 : decide ((U.length : Int) ≤ (k : Int)) = false := by simp; omega
          have u5 : decide ((a.length : Int) - 2 < (u.to : Int)) = true := by simp; omega
          have HB := Lib.hid (And.intro hpost hu)
          clear hb hpost hoU hu hstop hs
          rcases hfirst with h1 | ⟨t, hget, h1, h3, h2⟩
          · clear hoT
            go_wp2_with fail
            go_ret
            exact ⟨rfl, HB.out.1⟩
          · obtain ⟨g, rfl, y0, y1, y2, y3⟩ := own_tk hoT hget h3
            clear hoT hget
            go_wp2_with fail
            go_ret
            exact ⟨rfl, HB.out.1⟩
        · have u4 : decide ((U.length : Int) ≤ (k : Int)) = true := by simp; omega
          have HB := Lib.hid hpost
          clear hb hpost hoU hstop
          rcases hfirst with h1 | ⟨t, hget, h1, h3, h2⟩
          · clear hoT
            go_wp2_with fail
            go_ret
            exact ⟨rfl, HB.out⟩
          · obtain ⟨g, rfl, y0, y1, y2, y3⟩ := own_tk hoT hget h3
            clear hoT hget
            go_wp2_with fail
            go_ret
            exact ⟨rfl, HB.out⟩
end Go.Proofs.YtihmjejcikpibaaDoor
