/- TokenHere: the walk. A here-document is all lines up to the first one that is its delimiter, whatever stands in them. -/
import Derived.Test.YtihmjejcikpibaaDoorAw9
import Derived.Test.YtihmjejcikpibaaDoorTp9
import Derived.Test.YtihmjejcikpibaaDoorTh9
import Derived.Test.YtihmjejcikpibaaDoorHr9
import Derived.Test.YtihmjejcikpibaaDoorRnm
import Derived.Deep.DeepCutAuto
import Derived.Deep.CutBlock
namespace Go.Proofs.YtihmjejcikpibaaDoor
open Go.RowKit
set_option linter.unusedVariables false
set_option linter.unusedSimpArgs false
set_option maxRecDepth 100000
theorem name_open {w : List UInt8} (h : isNameL w = true) : w ≠ [] ∧ (∀ c ∈ w.head?, letB c = true) ∧ (∀ c ∈ w, nameB c = true) := by
  cases w with
  | nil => cases h
  | cons c r =>
    have h : (letB c && r.all nameB) = true := h
    simp only [Bool.and_eq_true, List.all_eq_true] at h
    refine ⟨by simp, fun d hd => ?_, fun d hd => ?_⟩
    · simp at hd; subst hd; exact h.1
    · rcases List.mem_cons.1 hd with rfl | hd
      · exact (let_all _ h.1).1
      · exact h.2 d hd
theorem headL_f (w : List UInt8) : headL false w = [99, 32, 60, 60] ++ w ++ [10] := by simp [headL, preL]
theorem headL_t (w : List UInt8) : headL true w = [99, 32, 60, 60, 45] ++ w ++ [10] := by simp [headL, preL]
theorem lastL_f (w : List UInt8) : lastL false w = w ++ [10] := by simp [lastL]
theorem lastL_t (w : List UInt8) : lastL true w = [9] ++ (w ++ [10]) := by simp [lastL]
theorem ba_lit (a : List UInt8) (b : List UInt8) : (⟨a.toArray⟩ : ByteArray) ++ ⟨b.toArray⟩ = ⟨(a ++ b).toArray⟩ := ba_append a b
set_option maxHeartbeats 8000000 in
theorem tokenHere_w (n body R : List UInt8) (t : Bool) (w : World) (hn : n.length ≤ 9223372036854775807) (hb : body.length ≤ 9223372036854775807) (hr : R.length ≤ 9223372036854775807) :
    Calls Tryd.prog 4 #[.string ⟨n.toArray⟩, .string ⟨body.toArray⟩, .string ⟨R.toArray⟩, .bool t] w fun e w' => e = .returned (.bool true) ∧ Below w.heap.size w w' := by
  by_cases hlong : 20 < n.length ∨ 100 < body.length ∨ 60 < R.length
  · have k3 : (decide ((20 : Int) < (n.length : Int)) = true) ∨ (decide ((20 : Int) < (n.length : Int)) = false ∧ decide ((100 : Int) < (body.length : Int)) = true) ∨ (decide ((20 : Int) < (n.length : Int)) = false ∧ decide ((100 : Int) < (body.length : Int)) = false ∧ decide ((60 : Int) < (R.length : Int)) = true) := by
      simp only [decide_eq_true_eq, decide_eq_false_iff_not]; omega
    rcases k3 with k1 | ⟨k1, k2⟩ | ⟨k1, k2, k3⟩ <;>
    · go_enter Tryd.func4, Tryd.ntmps4
      go_wp2_with (
        (go_at_call 8
         refine (awake9_c _).mono ?_
         rintro e w1 ⟨rfl, hb1⟩
         have H := Lib.hid hb1
         clear hb1))
      go_ret
      exact ⟨rfl, H.out⟩
  · have hn1 : n.length ≤ 20 := by omega
    have hb1 : body.length ≤ 100 := by omega
    have hr1 : R.length ≤ 60 := by omega
    have k1 : decide ((20 : Int) < (n.length : Int)) = false := by simp; omega
    have k2 : decide ((100 : Int) < (body.length : Int)) = false := by simp; omega
    have k3 : decide ((60 : Int) < (R.length : Int)) = false := by simp; omega
    have hname := isName_r n
    have hopen := @name_open n
    generalize isNameL n = nb at hname hopen
    have HN := Lib.hid (And.intro hname hopen)
    clear hname hopen
    cases nb
    · go_enter Tryd.func4, Tryd.ntmps4
      go_wp2_with (first
        | (go_at_call 8
           refine (awake9_c _).mono ?_
           rintro e w1 ⟨rfl, hb1⟩
           have H := Lib.hid hb1
           clear hb1)
        | (go_at_call 10
           refine (HN.out.1 _ (by omega)).mono ?_
           rintro e w2 ⟨rfl, rfl⟩))
      go_ret
      exact ⟨rfl, H.out⟩
    · obtain ⟨hne, hlet, hall⟩ := HN.out.2 rfl
      obtain ⟨B, hB⟩ : ∃ B, B = if 0 < body.length ∧ (body.getD (body.length - 1) 0).toNat ≠ 10 then body ++ [10] else body := ⟨_, rfl⟩
      have hBl : B.length ≤ 101 := by
        rw [hB]
        split
        · simp; omega
        · omega
      have hBe : B = [] ∨ (B.getD (B.length - 1) 0).toNat = 10 := by
        by_cases h0 : body = []
        · left; rw [hB, h0]; rfl
        · right
          have hpos := List.length_pos_iff.2 h0
          by_cases h10 : (body.getD (body.length - 1) 0).toNat = 10
          · rw [hB, if_neg (fun h => h.2 h10)]; exact h10
          · rw [hB, if_pos ⟨hpos, h10⟩]
            rw [List.length_append, List.length_singleton, Nat.add_sub_cancel]
            simp
      have hlaw := here_law n B R t hne hlet hall hBe
      have hrh : ∀ W, Calls Tryd.prog 11 #[.string ⟨B.toArray⟩, .int .i64 0, .agg #[.string ⟨n.toArray⟩, .bool t]] W fun e w' => e = .returned (.tuple #[.int .i64 ((hereL B 0 n t).1 : Int), .int .i64 (if (hereL B 0 n t).2 = true then 1 else 0)]) ∧ Below W.heap.size W w' := fun W => rhere_m B n t 0 W (by omega) (Nat.zero_le _)
      obtain ⟨hh, hhd⟩ : ∃ hh, hh = hereL B 0 n t := ⟨_, rfl⟩
      rw [← hhd] at hlaw hrh
      obtain ⟨hd, hhd2⟩ : ∃ hd, hd = headL t n := ⟨_, rfl⟩
      obtain ⟨la, hla⟩ : ∃ la, la = lastL t n := ⟨_, rfl⟩
      have hdl : hd.length ≤ 26 := by rw [hhd2]; cases t <;> simp [headL, preL] <;> omega
      have lal : la.length ≤ 22 := by rw [hla]; cases t <;> simp [lastL] <;> omega
      rw [← hhd2, ← hla] at hlaw
      have hlex : ∀ W, Calls Tryd.prog 9 #[.string (((⟨hd.toArray⟩ ++ ⟨B.toArray⟩) ++ ⟨la.toArray⟩) ++ ⟨R.toArray⟩)] W fun e w' => ∃ v1 v2, e = .returned (.tuple #[v1, v2]) ∧ w'.ownsRow W.heap.size 30 4 v1 (lexL (hd ++ (B ++ (la ++ R)))).1.length (tkcs (lexL (hd ++ (B ++ (la ++ R)))).1) ∧ LxP w' (lexL (hd ++ (B ++ (la ++ R)))).2 v2 ∧ Below W.heap.size W w' := by
        intro W
        rw [ba_append, ba_append, ba_append, List.append_assoc, List.append_assoc]
        exact lex_m _ W (by simp; omega)
      obtain ⟨T, hT⟩ : ∃ T, T = (lexL (hd ++ (B ++ (la ++ R)))).1 := ⟨_, rfl⟩
      obtain ⟨X, hX⟩ : ∃ X, X = (lexL (hd ++ (B ++ (la ++ R)))).2 := ⟨_, rfl⟩
      rw [← hT, ← hX] at hlex
      rw [← hT] at hlaw
      obtain ⟨V, hV⟩ : ∃ V : Int, V = if hh.2 = true then 1 else 0 := ⟨_, rfl⟩
      rw [← hV] at hrh
      have HVV := Lib.hid hV
      clear hV
      have HL := Lib.hid (And.intro hlaw (And.intro hrh (And.intro hlex hB)))
      have HD := Lib.hid (And.intro hhd2 hla)
      clear hlaw hrh hlex hB hhd2 hla hT hX hhd hne hlet hall hBe
      go_enter Tryd.func4, Tryd.ntmps4
      go_upto_region 5 with (first
        | (go_at_call 8
           refine (awake9_c _).mono ?_
           rintro e w1 ⟨rfl, hb1⟩
           have H := Lib.hid hb1
           clear hb1)
        | (go_at_call 10
           refine (HN.out.1 _ (by omega)).mono ?_
           rintro e w2 ⟨rfl, rfl⟩))
      obtain ⟨bb, hbb⟩ : ∃ bb, bb = decide (0 < body.length ∧ (body.getD (body.length - 1) 0).toNat ≠ 10) := ⟨_, rfl⟩
      have HBB := Lib.hid hbb
      clear hbb
      go_cut [45] (fun s wx => s = .bool bb ∧ w1 = wx)
      case first =>
        by_cases h0 : 0 < body.length
        · obtain ⟨m, hm⟩ : ∃ m, body.length = m + 1 := ⟨body.length - 1, by omega⟩
          obtain ⟨g1, g2⟩ := ba_at body m (by omega)
          obtain ⟨c, hc⟩ : ∃ c, c = body.getD m 0 := ⟨_, rfl⟩
          rw [← hc] at g2
          have d0 : decide ((0 : Int) < (body.length : Int)) = true := decide_eq_true (by omega)
          have e1 : (body.length : Int) - 1 = (m : Int) := by omega
          have e2 : (m : Int) < (body.length : Int) := by omega
          have e3 : (0 : Int) ≤ (m : Int) := by omega
          have hres : bb = ((c.toNat : Int) != 10) := by
            rw [HBB.out, hc, show m = body.length - 1 by omega]
            by_cases h : (body.getD (body.length - 1) 0).toNat = 10
            · rw [decide_eq_false (fun hh => hh.2 h), h]; rfl
            · rw [decide_eq_true ⟨h0, h⟩]; exact (bne_iff_ne.2 (fun hh => h (Int.ofNat.inj hh))).symm
          have HM := Lib.hid (And.intro hm hres)
          clear hm hres hc
          go_wp2_with fail
          try go_quiet (fail)
          try go_wp2_with fail
          go_meet
          exact ⟨by rw [HM.out.2], rfl⟩
        · have d0 : decide ((0 : Int) < (body.length : Int)) = false := decide_eq_false (by omega)
          have hres : bb = false := by rw [HBB.out]; exact decide_eq_false (fun h => h0 h.1)
          subst hres
          go_wp2_with fail
          go_meet
          exact ⟨rfl, rfl⟩
      case rest =>
        obtain ⟨rfl, rfl⟩ := hcut
        go_upto_if 45 with fail
        go_cut [1] (fun s wx => s = .string ⟨B.toArray⟩ ∧ w1 = wx)
        case first =>
          have ov0 : ¬ 9223372036854775807 < body.length + 1 := by omega
          cases bb
          · go_wp2_with fail
            go_meet
            refine ⟨?_, rfl⟩
            rw [HL.out.2.2.2, if_neg (of_decide_eq_false HBB.out.symm)]
          · go_wp2_with fail
            go_meet
            refine ⟨?_, rfl⟩
            rw [HL.out.2.2.2, if_pos (of_decide_eq_true HBB.out.symm), ← ba_append]
        case rest =>
          obtain ⟨rfl, rfl⟩ := hcut
          go_upto_region 8 with (
            (go_at_call 11
             with_reducible refine (HL.out.2.1 _).mono ?_
             rintro e w2 ⟨rfl, hb2⟩
             have H2 := Lib.hid (H.out.trans (hb2.mono H.out.size))
             clear hb2))
          have hvv : (V == 1) = hh.2 := by rw [HVV.out]; cases hh.2 <;> rfl
          cases hq : hh.2
          · have v1 : (V == 1) = false := by rw [hvv, hq]
            have hget := HL.out.1 hq
            have hk5 := (List.getElem?_eq_some_iff.1 hget).1
            have HG := Lib.hid hget
            clear hvv hq hget
            go_upto_if 63 with fail
            go_cut [11, 12] (fun s s' wx => s = .string ⟨hd.toArray⟩ ∧ s' = .string ⟨la.toArray⟩ ∧ w2 = wx)
            case first =>
              cases t
              · go_wp2_with fail
                go_meet
                refine ⟨?_, ?_, rfl⟩
                · rw [HD.out.1, headL_f, ← ba_append, ← ba_append]
                · rw [HD.out.2, lastL_f, ← ba_append]
              · have ov1 : ¬ 9223372036854775807 < 5 + n.length := by omega
                have ov2 : ¬ 9223372036854775807 < 5 + n.length + 1 := by omega
                have ov3 : ¬ 9223372036854775807 < 1 + (n.length + 1) := by omega
                go_wp2_with fail
                go_meet
                refine ⟨?_, ?_, rfl⟩
                · rw [HD.out.1, headL_t, ← ba_append, ← ba_append]
                · rw [HD.out.2, lastL_t, ← ba_append, ← ba_append]
            case rest =>
              obtain ⟨rfl, rfl, rfl⟩ := hcut
              have ov1 : ¬ 9223372036854775807 < hd.length + B.length := by omega
              have ov2 : ¬ 9223372036854775807 < hd.length + B.length + la.length := by omega
              have ov3 : ¬ 9223372036854775807 < hd.length + B.length + la.length + R.length := by omega
              have d6 : decide ((6 : Int) ≤ (T.length : Int)) = true := by simp; omega
              have d7 : (5 : Int) < (T.length : Int) := by omega
              go_wp2_with (
                (go_at_call 9
                 with_reducible refine (HL.out.2.2.1 _).mono ?_
                 rintro e w3 ⟨v1, v2, rfl, ho, ⟨v3, rfl, hr⟩, hb3⟩
                 obtain ⟨A3, c3, rfl⟩ := hr.form
                 unfold lxv
                 obtain ⟨A, m, c0, rfl⟩ := own_form' ho
                 obtain rfl := own_len ho
                 obtain ⟨g, rfl, y0, y1, y2, y3⟩ := own_tk ho HG.out hk5
                 have hg : g < w3.heap.size := (ho.lt g rfl).2
                 have y0 : w3.cell? ⟨g, 20, none⟩ = some (.int .i64 7) := y0
                 have y1 : w3.cell? ⟨g, 21, none⟩ = some (.int .i64 (hd.length : Int)) := y1
                 have y2 : w3.cell? ⟨g, 22, none⟩ = some (.int .i64 ((hd.length : Int) + (B.length : Int) + (la.length : Int))) := y2
                 have y3 : w3.cell? ⟨g, 23, none⟩ = some (.bool false) := y3
                 have H3 := Lib.hid (H2.out.trans (hb3.mono H2.out.size))
                 clear ho hr hb3))
              go_ret
              exact ⟨rfl, H3.out.alloc H3.out.size _⟩
          · have v1 : (V == 1) = true := by rw [hvv, hq]
            clear hvv hq
            go_wp2_with fail
            go_ret
            exact ⟨rfl, H2.out⟩
end Go.Proofs.YtihmjejcikpibaaDoor
