/- TokenRaw: the walk. The leaves, the bytes and the token at a place, of any row of tokens, are as the document says. -/
import Derived.Test.YtihmjejcikpibaaDoorAw9
import Derived.Test.YtihmjejcikpibaaDoorLf9
import Derived.Test.YtihmjejcikpibaaDoorIx9
import Derived.Deep.DeepCutAuto
import Derived.Deep.CutBlock
namespace Go.Proofs.YtihmjejcikpibaaDoor
open Go.RowKit
set_option linter.unusedVariables false
set_option linter.unusedSimpArgs false
set_option maxRecDepth 100000
theorem leavesZ_pre (l : List UInt8) (ts : List Tz) (k : Nat) (hk : k < ts.length) : ∃ M, leavesZ l ts = leavesZ l (ts.take (k + 1)) ++ M := by
  refine ⟨leavesZ l (ts.drop (k + 1)), ?_⟩
  have h := List.take_append_drop (k + 1) ts
  have e : leavesZ l (ts.take (k + 1) ++ ts.drop (k + 1)) = leavesZ l (ts.take (k + 1)) ++ leavesZ l (ts.drop (k + 1)) := by simp only [leavesZ, List.flatMap_append]
  rw [h] at e
  exact e
/-- Which token is the first one at a place, told so far. -/
def firstZ (p : Int) (ts : List Tz) (k : Nat) (F : Int) : Prop := (F = -1 ∧ atL p ts 0 = atL p (ts.drop k) k) ∨ (0 ≤ F ∧ atL p ts 0 = F)
theorem firstZ_next {p : Int} {ts : List Tz} {k : Nat} {F : Int} {t : Tz} (h : firstZ p ts k F) (hk : ts[k]? = some t) : firstZ p ts (k + 1) (if F < 0 ∧ atZ p t = true then (k : Int) else F) := by
  rcases h with ⟨rfl, h⟩ | ⟨h1, h2⟩
  · have hlt := (List.getElem?_eq_some_iff.1 hk).1
    rw [List.drop_eq_getElem_cons hlt] at h
    rw [List.getElem?_eq_getElem hlt] at hk
    injection hk with hk
    rw [hk] at h
    by_cases ha : atZ p t = true
    · rw [if_pos ⟨by decide, ha⟩]
      refine .inr ⟨by omega, ?_⟩
      rw [h, atL, if_pos ha]
    · rw [if_neg (fun hh => ha hh.2)]
      refine .inl ⟨rfl, ?_⟩
      rw [h, atL, if_neg ha]
      rfl
  · rw [if_neg (fun hh => by omega)]
    exact .inr ⟨h1, h2⟩
theorem firstZ_end {p : Int} {ts : List Tz} {F : Int} (h : firstZ p ts ts.length F) : atL p ts 0 = F := by
  rcases h with ⟨rfl, h⟩ | ⟨h1, h2⟩
  · rw [h, List.drop_length]; rfl
  · exact h2
theorem own_lf {w : World} {B n c : Nat} {A : Option Addr} {L : List Lf} (ho : w.ownsRow B 43 4 (.slice A n c) n (lfcs L)) {k : Nat} {t : Lf} (h : L[k]? = some t) (hk : k < n) :
    ∃ g, A = some ⟨g, 0, none⟩ ∧ w.cell? ⟨g, k * 4, none⟩ = some (.int .i64 t.kd) ∧ w.cell? ⟨g, k * 4 + 1, none⟩ = some (.string ⟨t.tx.toArray⟩) ∧ w.cell? ⟨g, k * 4 + 2, none⟩ = some (.int .i64 t.fr) ∧ w.cell? ⟨g, k * 4 + 3, none⟩ = some (.int .i64 t.to) := by
  obtain ⟨g, rfl⟩ := own_at ho (by omega)
  refine ⟨g, rfl, ?_, ?_, ?_, ?_⟩
  · exact own_cell ho (k * 4 + 0) _ (flatMap_get lfc_len L k t 0 _ h rfl)
  · exact own_cell ho (k * 4 + 1) _ (flatMap_get lfc_len L k t 1 _ h rfl)
  · exact own_cell ho (k * 4 + 2) _ (flatMap_get lfc_len L k t 2 _ h rfl)
  · exact own_cell ho (k * 4 + 3) _ (flatMap_get lfc_len L k t 3 _ h rfl)
set_option maxHeartbeats 8000000 in
theorem tokenRaw_w (l : List UInt8) (ts : List Tz) (A : Option Addr) (n c : Nat) (p : Int) (w : World) (hm : l.length ≤ 9223372036854775807) (hR : Rd w w.heap.size 4 (.slice A n c) n (ts.flatMap tzc)) (hn : n = ts.length) (hm2 : n ≤ 9223372036854775807) (hp : -9223372036854775808 ≤ p ∧ p ≤ 9223372036854775807) :
    Calls Tryd.prog 7 #[.string ⟨l.toArray⟩, .slice A n c, .int .i64 p] w fun e w' => e = .returned (.bool true) ∧ Below w.heap.size w w' := by
  subst hn
  have HR := Lib.hid hR
  clear hR
  by_cases hlong : 100 < l.length ∨ 40 < ts.length
  · have k3 : (decide ((100 : Int) < (l.length : Int)) = true) ∨ (decide ((100 : Int) < (l.length : Int)) = false ∧ decide ((40 : Int) < (ts.length : Int)) = true) := by
      simp only [decide_eq_true_eq, decide_eq_false_iff_not]; omega
    rcases k3 with k1 | ⟨k1, k2⟩ <;>
    · go_enter Tryd.func7, Tryd.ntmps7
      go_wp2_with (
        (go_at_call 8
         refine (awake9_c _).mono ?_
         rintro e w1 ⟨rfl, hb1⟩
         have H := Lib.hid hb1
         clear hb1))
      go_ret
      exact ⟨rfl, H.out⟩
  · have hl : l.length ≤ 100 := by omega
    have ht : ts.length ≤ 40 := by omega
    have k1 : decide ((100 : Int) < (l.length : Int)) = false := by simp; omega
    have k2 : decide ((40 : Int) < (ts.length : Int)) = false := by simp; omega
    obtain ⟨L, hL⟩ : ∃ L, L = leavesZ l ts := ⟨_, rfl⟩
    have hLl : L.length ≤ 40 := by rw [hL]; exact Nat.le_trans (leavesZ_len l ts) ht
    have HL := Lib.hid hL
    clear hL
    go_enter Tryd.func7, Tryd.ntmps7
    go_wp2_with (first
      | (go_at_call 8
         refine (awake9_c _).mono ?_
         rintro e w1 ⟨rfl, hb⟩
         have H := Lib.hid hb
         clear hb)
      | (go_at_call 15
         refine (leaves_z l ts A c _ (by omega) (by omega) ((HR.out.keep H.out (Nat.le_refl _)).mono H.out.size)).mono ?_
         rintro e w2 ⟨v, rfl, ho, hb2⟩
         rw [← HL.out] at ho
         obtain ⟨A2, n2, c2, rfl⟩ := own_form' ho
         obtain rfl := own_len ho
         have hb3 := H.out.trans (hb2.mono H.out.size)
         have H2 := Lib.hid (And.intro ho hb3)
         clear ho hb2 hb3))
    go_loopw [8, 9, 10, 11, 12, 13] (fun n f i u v k wr => ∃ (m : Nat) (F : Int), m ≤ ts.length ∧ i = .int .i64 m ∧ n = .int .i64 ((leavesZ l (ts.take m)).length : Int) ∧ f = .int .i64 F ∧ firstZ p ts m F ∧ Below w2.heap.size w2 wr) (fun n f i u v k _ => ts.length - (intOf i).toNat)
    case atStart => exact ⟨0, -1, Nat.zero_le _, rfl, rfl, rfl, .inl ⟨rfl, rfl⟩, Below.refl _ _⟩
    case round =>
      obtain ⟨m, F, hm, rfl, rfl, rfl, hF, hb⟩ := hrel
      by_cases hlt : m < ts.length
      · obtain ⟨⟨kd, fr, tt, op⟩, hget⟩ : ∃ t, ts[m]? = some t := ⟨_, List.getElem?_eq_getElem hlt⟩
        have hb0 := H2.out.2.trans (hb.mono H2.out.2.size)
        obtain ⟨g, q, hA, hgw, hc⟩ := rd_at tzc_len (HR.out.keep hb0 (Nat.le_refl _)) hget rfl
        subst hA
        have y0 : wr.cell? ⟨g, q + m * 4, none⟩ = some (.int .i64 kd) := hc 0 _ rfl
        have y1 : wr.cell? ⟨g, q + m * 4 + 1, none⟩ = some (.int .i64 fr) := hc 1 _ rfl
        have y2 : wr.cell? ⟨g, q + m * 4 + 2, none⟩ = some (.int .i64 tt) := hc 2 _ rfl
        have y3 : wr.cell? ⟨g, q + m * 4 + 3, none⟩ = some (.bool op) := hc 3 _ rfl
        have u1 : (m : Int) < (ts.length : Int) := by omega
        have u2 : (0 : Int) ≤ (m : Int) := by omega
        have hFn := firstZ_next hF hget
        have hsuc := leavesZ_take l ts hget
        obtain ⟨M, hM⟩ := leavesZ_pre l ts m hlt
        rw [hsuc, ← HL.out] at hM
        obtain ⟨C, hC⟩ : ∃ C, C = leavesZ l (ts.take m) := ⟨_, rfl⟩
        rw [← hC] at hM hsuc ⊢
        have hleaf : ∀ b b', inZ l ⟨kd, fr, tt, op⟩ = b → leafK kd = b' → leafZ l ⟨kd, fr, tt, op⟩ = if b = true ∧ b' = true then [⟨kd, txZ l ⟨kd, fr, tt, op⟩, fr, tt⟩] else [] := by rintro b b' rfl rfl; rfl
        have htxd : ∀ b, inZ l ⟨kd, fr, tt, op⟩ = b → txZ l ⟨kd, fr, tt, op⟩ = if b = true then sub l fr.toNat tt.toNat else [] := by rintro b rfl; rfl
        have htx : ∀ W, Calls Tryd.prog 12 #[.string ⟨l.toArray⟩, .agg #[.int .i64 kd, .int .i64 fr, .int .i64 tt, .bool op]] W fun e w' => e = .returned (.string ⟨(txZ l ⟨kd, fr, tt, op⟩).toArray⟩) ∧ Below W.heap.size W w' := fun W => text9_z l ⟨kd, fr, tt, op⟩ W (by omega)
        have hways : (decide (fr < 0) = true ∧ inZ l ⟨kd, fr, tt, op⟩ = false) ∨ (decide (fr < 0) = false ∧ decide (tt < fr) = true ∧ inZ l ⟨kd, fr, tt, op⟩ = false) ∨ (decide (fr < 0) = false ∧ decide (tt < fr) = false ∧ decide ((l.length : Int) < tt) = true ∧ inZ l ⟨kd, fr, tt, op⟩ = false) ∨ (decide (fr < 0) = false ∧ decide (tt < fr) = false ∧ decide ((l.length : Int) < tt) = false ∧ inZ l ⟨kd, fr, tt, op⟩ = true) := inZ_ways l ⟨kd, fr, tt, op⟩
        have kways := leafK_ways kd
        have hat : atZ p ⟨kd, fr, tt, op⟩ = (decide (fr ≤ p) && decide (p < tt)) := rfl
        obtain ⟨X, hX⟩ : ∃ X, X = txZ l ⟨kd, fr, tt, op⟩ := ⟨_, rfl⟩
        rw [← hX] at hleaf htx htxd
        generalize inZ l ⟨kd, fr, tt, op⟩ = bi at hways hleaf htxd
        generalize leafK kd = bk at kways hleaf
        have hleaf := hleaf bi bk rfl rfl
        have htxd := htxd bi rfl
        have HP := Lib.hid (And.intro hb0 (And.intro hFn (And.intro hsuc (And.intro hM (And.intro hleaf (And.intro htx (And.intro hb hat)))))))
        have HT := Lib.hid htxd
        have HK := Lib.hid kways
        clear hb0 hF hFn hsuc hM hleaf htx hb hat htxd kways hX hget hc hC
        go_upto_region 11 with fail
        go_cut [11] (fun s wx => s = .bool bi ∧ Below wr.heap.size wr wx)
        case first =>
          rcases hways with ⟨d0, rfl⟩ | ⟨d0, d1, rfl⟩ | ⟨d0, d1, d2, rfl⟩ | ⟨d0, d1, d2, rfl⟩
          · have e0 : decide (0 ≤ fr) = false := by simp at d0 ⊢; omega
            go_wp2_with fail
            try go_quiet (fail)
            go_wp2_with fail
            go_meet
            exact ⟨rfl, below_drewN' (Below.refl _ _) _⟩
          · have e0 : decide (0 ≤ fr) = true := by simp at d0 ⊢; omega
            have e1 : decide (fr ≤ tt) = false := by simp at d1 ⊢; omega
            go_wp2_with fail
            try go_quiet (fail)
            go_wp2_with fail
            go_meet
            exact ⟨rfl, below_drewN' (Below.refl _ _) _⟩
          · have e0 : decide (0 ≤ fr) = true := by simp at d0 ⊢; omega
            have e1 : decide (fr ≤ tt) = true := by simp at d1 ⊢; omega
            have e2 : decide (tt ≤ (l.length : Int)) = false := by simp at d2 ⊢; omega
            go_wp2_with fail
            try go_quiet (fail)
            go_wp2_with fail
            go_meet
            exact ⟨rfl, below_drewN' (Below.refl _ _) _⟩
          · have e0 : decide (0 ≤ fr) = true := by simp at d0 ⊢; omega
            have e1 : decide (fr ≤ tt) = true := by simp at d1 ⊢; omega
            have e2 : decide (tt ≤ (l.length : Int)) = true := by simp at d2 ⊢; omega
            go_wp2_with fail
            try go_quiet (fail)
            go_wp2_with fail
            go_meet
            exact ⟨rfl, below_drewN' (Below.refl _ _) _⟩
        case rest =>
          obtain ⟨rfl, hbc⟩ := hcut
          have y0 : wc.cell? ⟨g, q + m * 4, none⟩ = some (.int .i64 kd) := ((bcell hbc).1 _ _ (by have := HP.out.1.size; omega)).trans y0
          have y1 : wc.cell? ⟨g, q + m * 4 + 1, none⟩ = some (.int .i64 fr) := ((bcell hbc).1 _ _ (by have := HP.out.1.size; omega)).trans y1
          have y2 : wc.cell? ⟨g, q + m * 4 + 2, none⟩ = some (.int .i64 tt) := ((bcell hbc).1 _ _ (by have := HP.out.1.size; omega)).trans y2
          have y3 : wc.cell? ⟨g, q + m * 4 + 3, none⟩ = some (.bool op) := ((bcell hbc).1 _ _ (by have := HP.out.1.size; omega)).trans y3
          have HB := Lib.hid hbc
          have hv : bi = true → 0 ≤ fr ∧ fr ≤ tt ∧ tt ≤ (l.length : Int) := by
            intro h
            rcases hways with ⟨d0, h0⟩ | ⟨d0, d1, h0⟩ | ⟨d0, d1, d2, h0⟩ | ⟨d0, d1, d2, h0⟩
            · rw [h] at h0; cases h0
            · rw [h] at h0; cases h0
            · rw [h] at h0; cases h0
            · simp at d0 d1 d2; omega
          have HV := Lib.hid hv
          clear hbc hways hv hleaf htxd
          obtain ⟨w5, rfl⟩ : ∃ w5 : World, w5 = wc := ⟨_, rfl⟩
          go_upto_if 62 with fail
          go_cut [12] (fun s wx => s = .string ⟨X.toArray⟩ ∧ Below w5.heap.size w5 wx)
          case first =>
            cases bi
            · go_wp2_with fail
              go_meet
              exact ⟨by rw [HT.out]; rfl, Below.refl _ _⟩
            · obtain ⟨v0, v1, v2⟩ := HV.out rfl
              go_wp2_with fail
              go_quiet (fail)
              go_wp2_with fail
              go_meet
              refine ⟨?_, below_drewN' (Below.refl _ _) _⟩
              rw [HT.out, ba_extract]
              rfl
          case rest =>
            obtain ⟨rfl, hbd⟩ := hcut
            have hgs : g < w5.heap.size := by have := HP.out.1.size; have := HB.out.size; omega
            have y0 : wc.cell? ⟨g, q + m * 4, none⟩ = some (.int .i64 kd) := ((bcell hbd).1 _ _ hgs).trans y0
            have y1 : wc.cell? ⟨g, q + m * 4 + 1, none⟩ = some (.int .i64 fr) := ((bcell hbd).1 _ _ hgs).trans y1
            have y2 : wc.cell? ⟨g, q + m * 4 + 2, none⟩ = some (.int .i64 tt) := ((bcell hbd).1 _ _ hgs).trans y2
            have y3 : wc.cell? ⟨g, q + m * 4 + 3, none⟩ = some (.bool op) := ((bcell hbd).1 _ _ hgs).trans y3
            have HB2 := Lib.hid (HP.out.2.2.2.2.2.2.1.trans ((HB.out.trans (hbd.mono HB.out.size)).mono HP.out.2.2.2.2.2.2.1.size))
            clear hbd HB
            go_upto_region 17 with (
              (go_at_call 12
               with_reducible refine (HP.out.2.2.2.2.2.1 _).mono ?_
               rintro e w6 ⟨rfl, hb6⟩
               have hb7 : Below wc.heap.size wc w6 := by first | exact hb6 | exact (below_drewN' (Below.refl _ wc) 1).trans hb6
               have hgs2 : g < wc.heap.size := by have := HP.out.1.size; have := HP.out.2.2.2.2.2.2.1.size; have := HB2.out.size; have := H2.out.2.size; omega
               have y0 : w6.cell? ⟨g, q + m * 4, none⟩ = some (.int .i64 kd) := ((bcell hb7).1 _ _ hgs2).trans y0
               have y1 : w6.cell? ⟨g, q + m * 4 + 1, none⟩ = some (.int .i64 fr) := ((bcell hb7).1 _ _ hgs2).trans y1
               have y2 : w6.cell? ⟨g, q + m * 4 + 2, none⟩ = some (.int .i64 tt) := ((bcell hb7).1 _ _ hgs2).trans y2
               have y3 : w6.cell? ⟨g, q + m * 4 + 3, none⟩ = some (.bool op) := ((bcell hb7).1 _ _ hgs2).trans y3
               have HB3 := Lib.hid (HB2.out.trans (hb7.mono HB2.out.size))
               clear hb6 hb7 hgs2))
            have hB2s : g < w6.heap.size := by have := HP.out.1.size; have := HP.out.2.2.2.2.2.2.1.size; have := HB3.out.size; have := H2.out.2.size; omega
            obtain ⟨bf, hbf⟩ : ∃ bf, bf = (decide (F < 0) && atZ p ⟨kd, fr, tt, op⟩) := ⟨_, rfl⟩
            have hbf2 : bf = (decide (F < 0) && (decide (fr ≤ p) && decide (p < tt))) := by rw [hbf, HP.out.2.2.2.2.2.2.2]
            have HBF := Lib.hid (And.intro hbf hbf2)
            clear hbf hbf2
            go_cut [102] (fun s wx => s = .bool bf ∧ Below w6.heap.size w6 wx)
            case first =>
              by_cases f1 : F < 0
              · have d1 : decide (F < 0) = true := by simpa using f1
                by_cases f2 : fr ≤ p
                · have d2 : decide (fr ≤ p) = true := by simpa using f2
                  cases d3 : decide (p < tt)
                  all_goals (
                    have hb : bf = _ := HBF.out.2
                    rw [d1, d2, d3] at hb
                    have hb2 : bf = _ := hb.trans rfl
                    clear hb
                    subst hb2
                    go_wp2_with fail
                    try go_quiet (fail)
                    try go_wp2_with fail
                    go_meet
                    exact ⟨rfl, by first | exact Below.refl _ _ | exact below_drewN' (Below.refl _ _) _⟩)
                · have d2 : decide (fr ≤ p) = false := by simpa using f2
                  have hb : bf = _ := HBF.out.2
                  rw [d1, d2] at hb
                  have hb2 : bf = false := hb.trans rfl
                  clear hb
                  subst hb2
                  go_wp2_with fail
                  try go_quiet (fail)
                  try go_wp2_with fail
                  go_meet
                  exact ⟨rfl, by first | exact Below.refl _ _ | exact below_drewN' (Below.refl _ _) _⟩
              · have d1 : decide (F < 0) = false := by simpa using f1
                have hb : bf = _ := HBF.out.2
                rw [d1] at hb
                have hb2 : bf = false := hb.trans rfl
                clear hb
                subst hb2
                go_wp2_with fail
                try go_quiet (fail)
                try go_wp2_with fail
                go_meet
                exact ⟨rfl, by first | exact Below.refl _ _ | exact below_drewN' (Below.refl _ _) _⟩
            case rest =>
              obtain ⟨rfl, hbe⟩ := hcut
              have y0 : wc.cell? ⟨g, q + m * 4, none⟩ = some (.int .i64 kd) := ((bcell hbe).1 _ _ hB2s).trans y0
              have y1 : wc.cell? ⟨g, q + m * 4 + 1, none⟩ = some (.int .i64 fr) := ((bcell hbe).1 _ _ hB2s).trans y1
              have y2 : wc.cell? ⟨g, q + m * 4 + 2, none⟩ = some (.int .i64 tt) := ((bcell hbe).1 _ _ hB2s).trans y2
              have y3 : wc.cell? ⟨g, q + m * 4 + 3, none⟩ = some (.bool op) := ((bcell hbe).1 _ _ hB2s).trans y3
              have HE := Lib.hid (HB3.out.trans (hbe.mono HB3.out.size))
              have hown := own_below H2.out.1 ((HB3.out.trans (hbe.mono HB3.out.size)))
              clear hbe hB2s
              have hfz : ∃ F', F' = (if bf = true then (m : Int) else F) ∧ firstZ p ts (m + 1) F' := by
                refine ⟨_, rfl, ?_⟩
                have h1 := HP.out.2.1
                rw [HBF.out.1]
                simpa using h1
              have HF := Lib.hid hfz
              clear hfz
              obtain ⟨w7, rfl⟩ : ∃ w7 : World, w7 = wc := ⟨_, rfl⟩
              go_upto_if 102 with fail
              go_cut [9] (fun s wx => (∃ F', s = .int .i64 F' ∧ firstZ p ts (m + 1) F') ∧ w7 = wx)
              case first =>
                cases bf
                all_goals (
                  go_wp2_with fail
                  go_meet
                  obtain ⟨F', hF1, hF2⟩ := HF.out
                  exact ⟨⟨F', by rw [hF1]; rfl, hF2⟩, rfl⟩)
              case rest =>
                obtain ⟨⟨F', rfl, hF2⟩, rfl⟩ := hcut
                have HF2 := Lib.hid hF2
                obtain ⟨bb, hbb⟩ : ∃ bb, bb = (bi && bk) := ⟨_, rfl⟩
                have HBB := Lib.hid hbb
                clear hF2 hbb HF
                go_upto_region 20 with fail
                go_cut [125] (fun s wx => s = .bool bb ∧ w7 = wx)
                case first =>
                  clear hown
                  cases bi
                  · have hb2 : bb = false := by rw [HBB.out]; rfl
                    subst hb2
                    go_wp2_with fail
                    go_meet
                    exact ⟨rfl, rfl⟩
                  · have hb2 : bb = bk := by rw [HBB.out]; rfl
                    have HB4 := Lib.hid hb2
                    clear hb2
                    have hkd : ((kd = 2 ∨ kd = 4 ∨ kd = 5 ∨ kd = 6) ∧ bk = true) ∨ ((kd == 2) = false ∧ (kd == 4) = false ∧ (kd == 5) = false ∧ (kd == 6) = false ∧ bk = false) := by
                      rcases HK.out with ⟨h, h2⟩ | ⟨_, h, h2⟩ | ⟨_, _, h, h2⟩ | ⟨_, _, _, h, h2⟩ | ⟨h1, h2, h3, h4, h5⟩
                      · exact .inl ⟨.inr (.inl (by simpa using h)), h2⟩
                      · exact .inl ⟨.inr (.inr (.inl (by simpa using h))), h2⟩
                      · exact .inl ⟨.inr (.inr (.inr (by simpa using h))), h2⟩
                      · exact .inl ⟨.inl (by simpa using h), h2⟩
                      · exact .inr ⟨h4, h1, h2, h3, h5⟩
                    have H8 := Lib.hid hkd
                    clear hkd HK
                    rcases H8.out with ⟨rfl | rfl | rfl | rfl, hbk⟩ | ⟨k2, k4, k5, k6, hbk⟩
                    all_goals (
                      have H9 := Lib.hid hbk
                      clear hbk H8
                      go_wp2_with fail
                      go_meet
                      exact ⟨by rw [HB4.out, H9.out], rfl⟩)
                case rest =>
                  obtain ⟨rfl, rfl⟩ := hcut
                  cases bb
                  · clear hown
                    have hl0 := HP.out.2.2.2.2.1
                    rw [if_neg (by have := HBB.out; intro h; rw [h.1, h.2] at this; cases this)] at hl0
                    have hs := HP.out.2.2.1
                    rw [hl0, List.append_nil] at hs
                    have HS := Lib.hid hs
                    clear hl0 hs
                    go_wp2_with fail
                    exact ⟨⟨m + 1, F', by omega, by go_num, by rw [HS.out], rfl, HF2.out, HE.out⟩, by simp [intOf]; omega⟩
                  · have hl0 := HP.out.2.2.2.2.1
                    rw [if_pos (by have := HBB.out; cases bi <;> cases bk <;> simp at this ⊢)] at hl0
                    have hs := HP.out.2.2.1
                    have hM2 := HP.out.2.2.2.1
                    rw [hl0] at hs hM2
                    have hgetL : L[C.length]? = some ⟨kd, X, fr, tt⟩ := by rw [hM2]; simp
                    have hCL : C.length < L.length := (List.getElem?_eq_some_iff.1 hgetL).1
                    obtain ⟨g2, rfl, z0, z1, z2, z3⟩ := own_lf hown hgetL hCL
                    have hs2 : ((leavesZ l (ts.take (m + 1))).length : Int) = (C.length : Int) + 1 := by rw [hs]; simp
                    have HS := Lib.hid hs2
                    have v1 : decide ((L.length : Int) ≤ (C.length : Int)) = false := by simp; omega
                    have v2 : (C.length : Int) < (L.length : Int) := by omega
                    have v3 : (0 : Int) ≤ (C.length : Int) := by omega
                    clear hl0 hs hs2 hM2 hgetL hown HK
                    go_wp2_with fail
                    go_quiet (fail)
                    go_wp2_with fail
                    exact ⟨⟨m + 1, F', by omega, by go_num, by rw [HS.out], rfl, HF2.out, below_drewN' HE.out _⟩, by simp [intOf]; omega⟩
      · obtain rfl : m = ts.length := by omega
        rw [List.take_length, ← HL.out]
        have hfin := firstZ_end hF
        have hb0 := H2.out.2.trans (hb.mono H2.out.2.size)
        have hR2 := (HR.out.keep hb0 (Nat.le_refl _)).mono hb0.size
        have HP := Lib.hid (And.intro hfin (And.intro hb0 hR2))
        clear hb hF hfin hb0 hR2
        go_wp2_with (
          (go_at_call 16
           refine (tat_m ts p A c _ (by omega) HP.out.2.2).mono ?_
           rintro e w5 ⟨rfl, hb5⟩
           rw [HP.out.1]
           have H5 := Lib.hid hb5
           clear hb5))
        go_ret
        exact ⟨rfl, HP.out.2.1.trans (H5.out.mono HP.out.2.1.size)⟩
end Go.Proofs.YtihmjejcikpibaaDoor
