/- TokenStep: the walk. Each token, and the lexing behind it, hang on the place and the lexing ahead alone; outside there is none. -/
import Derived.Test.YtffngggdelmkpaaGreatDoorAw9
import Derived.Test.YtffngggdelmkpaaGreatDoorRl9
import Derived.Test.YtffngggdelmkpaaGreatDoorSm9
import Derived.Test.YtffngggdelmkpaaGreatDoorKp9
import Derived.Test.YtffngggdelmkpaaGreatDoorTp9
import Derived.Deep.DeepCutAuto
import Derived.Deep.CutBlock
namespace Go.Proofs.YtffngggdelmkpaaGreatDoor
open Go.RowKit
set_option linter.unusedVariables false
set_option linter.unusedSimpArgs false
set_option maxRecDepth 100000
set_option maxHeartbeats 4000000 in
theorem tokenStep_w (l : List UInt8) (p : Int) (w : World) (hm : l.length ≤ 9223372036854775807) (hp : -9223372036854775808 ≤ p ∧ p ≤ 9223372036854775807) :
    Calls Tryz.prog 4 #[.string ⟨l.toArray⟩, .int .i64 p] w fun e w' => e = .returned (.bool true) ∧ Below w.heap.size w w' := by
  go_enter Tryz.func4, Tryz.ntmps4
  by_cases h150 : (150 : Int) < (l.length : Int)
  · go_wp2_with (
      (go_at_call 12
       refine (awake9_c _).mono ?_
       rintro e w1 ⟨rfl, hb⟩
       have H := Lib.hid hb
       clear hb))
    go_ret
    exact ⟨rfl, H.out⟩
  · have hl : l.length ≤ 900 := by omega
    have tlen := lexL_len l
    obtain ⟨ts, hts⟩ : ∃ ts, ts = (lexL l).1 := ⟨_, rfl⟩
    obtain ⟨Z, hZ⟩ : ∃ Z, Z = (lexL l).2 := ⟨_, rfl⟩
    have c2 : ∀ W, Calls Tryz.prog 14 #[.string ⟨l.toArray⟩] W fun e w' => ∃ v1 v2, e = .returned (.tuple #[v1, v2]) ∧ w'.ownsRow W.heap.size 33 4 v1 ts.length (tkcs ts) ∧ LxP w' Z v2 ∧ Below W.heap.size W w' := fun W => by rw [hts, hZ]; exact rlex_m l W hl
    rw [← hts] at tlen
    have hmap : ts = (plcs l).map Prod.fst := hts.trans (plc_lex l 0 lx0)
    have HC := Lib.hid (And.intro c2 (And.intro hmap hZ))
    clear c2 hts hZ hmap
    go_wp2_with (first
      | (go_at_call 12
         refine (awake9_c _).mono ?_
         rintro e w1 ⟨rfl, hb⟩
         have H := Lib.hid hb
         clear hb)
      | (go_at_call 14
         with_reducible refine (HC.out.1 _).mono ?_
         rintro e w4 ⟨v1, v2, rfl, ho, ⟨v3, rfl, hr⟩, hb4⟩
         obtain ⟨A5, c5, rfl⟩ := hr.form
         unfold lxv
         obtain ⟨A, n, c, rfl⟩ := own_form' ho
         obtain rfl := own_len ho
         have H4 := Lib.hid (And.intro (Rt.of_own ho) (H.out.trans (hb4.mono H.out.size)))
         clear ho hb4 hr))
    have hN := H4.out.2.size
    go_loopw [9] (fun i wr => ∃ (k x : Nat) (X : Lx) (A1 A2 : Option Addr) (c1 c2 : Nat), k ≤ ts.length ∧ i = .int .i64 k ∧ stF l k 0 lx0 = (x, X) ∧ LInv X x ∧ x ≤ l.length ∧
      Bk wr (w4.heap.size + 1) 26 #[.int .i64 X.aw, .slice A1 X.pd.length c1, .bool X.bd] ∧ Bk wr (w4.heap.size + 1 + 1) 26 #[.int .i64 X.aw, .slice A2 X.pd.length c2, .bool X.bd] ∧
      Rt wr 75 2 (.slice A1 X.pd.length c1) X.pd.length (dcls X.pd) ∧ Rt wr 75 2 (.slice A2 X.pd.length c2) X.pd.length (dcls X.pd) ∧
      Rt wr 33 4 (.slice A ts.length c) ts.length (tkcs ts) ∧ Below w.heap.size w wr) (fun i _ => ts.length - (intOf i).toNat)
    case atStart =>
      have e2 := Bk.new ((w4.alloc (.cells #[.int .i64 Z.aw, .slice A5 Z.pd.length c5, .bool Z.bd] 26)).alloc (.cells #[.int .i64 0, .slice none 0 0, .bool false] 26)) 26 #[.int .i64 0, .slice none 0 0, .bool false]
      rw [show ((w4.alloc (.cells #[.int .i64 Z.aw, .slice A5 Z.pd.length c5, .bool Z.bd] 26)).alloc (.cells #[.int .i64 0, .slice none 0 0, .bool false] 26)).heap.size = w4.heap.size + 1 + 1 by simp] at e2
      have b1 := H4.out.2.alloc hN (.cells #[.int .i64 Z.aw, .slice A5 Z.pd.length c5, .bool Z.bd] 26)
      have b2 := b1.alloc b1.size (.cells #[.int .i64 0, .slice none 0 0, .bool false] 26)
      have b3 := b2.alloc b2.size (.cells #[.int .i64 0, .slice none 0 0, .bool false] 26)
      exact ⟨0, 0, lx0, none, none, 0, 0, Nat.zero_le _, rfl, rfl, ⟨(fun h => by cases h), Nat.le_refl _⟩, Nat.zero_le _, (bk_second w4 _ _ _ _).alloc _, e2, Rt.nil _ _ _, Rt.nil _ _ _, ((H4.out.1.next (Below.alloc (Below.refl _ _) (Nat.le_refl _) _)).next (Below.alloc (Below.refl _ _) (Nat.le_refl _) _)).next (Below.alloc (Below.refl _ _) (Nat.le_refl _) _), b3⟩
    case round =>
      obtain ⟨k, x, X, A1, A2, c1, c2, hk, rfl, hst, hinv, hx, kx, ky, rx, ry, rt, hb⟩ := hrel
      obtain ⟨p0, p1, p2, _⟩ := kx.three
      obtain ⟨q0, q1, q2, _⟩ := ky.three
      by_cases hlt : k < ts.length
      · have u1 : (k : Int) < (ts.length : Int) := by omega
        have u2 : (0 : Int) ≤ (k : Int) := by omega
        obtain ⟨⟨kd, fr, tt, op⟩, hget⟩ : ∃ t, ts[k]? = some t := ⟨_, List.getElem?_eq_getElem hlt⟩
        have hget2 := hget
        rw [HC.out.2.1] at hget2
        obtain ⟨rfl, hxl, hto2, hto1, Y, hstep, hs1, hinv2⟩ := plc_step hst hinv hget2
        clear hget2
        have hxpd : X.pd.length ≤ 10000 := by have := hinv.2; omega
        have hm1 : ∀ W, Rt W 75 2 (.slice A1 X.pd.length c1) X.pd.length (dcls X.pd) → Calls Tryz.prog 17 #[.string ⟨l.toArray⟩, .int .i64 (fr : Int), .agg #[.int .i64 X.aw, .slice A1 X.pd.length c1, .bool X.bd]] W fun e w' => ∃ v, e = .returned (.tuple #[.agg #[.int .i64 (kd : Int), .int .i64 (fr : Int), .int .i64 (tt : Int), .bool op], v]) ∧ LxP w' Y v ∧ Below W.heap.size W w' := fun W h => by
          have := step9_m l fr X A1 _ c1 W hl hxl rfl h hxpd
          rw [hstep] at this
          exact this
        have hm2 : ∀ W, Rt W 75 2 (.slice A2 X.pd.length c2) X.pd.length (dcls X.pd) → Calls Tryz.prog 18 #[.string ⟨l.toArray⟩, .int .i64 (fr : Int), .agg #[.int .i64 X.aw, .slice A2 X.pd.length c2, .bool X.bd]] W fun e w' => ∃ v, e = .returned (.tuple #[.agg #[.int .i64 (kd : Int), .int .i64 (fr : Int), .int .i64 (tt : Int), .bool op], v]) ∧ LxP w' Y v ∧ Below W.heap.size W w' := fun W h => by
          have := rstep_all l fr X hl hxl hinv.1 A2 c2 W h hxpd
          rw [hstep] at this
          exact this
        clear hst hinv hstep
        obtain ⟨g, o, rfl, hgl, hc⟩ := rd_sat tkc_len rt.rd hget rfl
        have y0 : wr.cell? ⟨g, o + k * 4, none⟩ = some (.int .i64 (kd : Int)) := hc 0 _ rfl
        have y1 : wr.cell? ⟨g, o + k * 4 + 1, none⟩ = some (.int .i64 (fr : Int)) := hc 1 _ rfl
        have y2 : wr.cell? ⟨g, o + k * 4 + 2, none⟩ = some (.int .i64 (tt : Int)) := hc 2 _ rfl
        have y3 : wr.cell? ⟨g, o + k * 4 + 3, none⟩ = some (.bool op) := hc 3 _ rfl
        have cells : ∀ W, Rt W 33 4 (.slice (some ⟨g, o, none⟩) ts.length c) ts.length (tkcs ts) → W.cell? ⟨g, o + k * 4, none⟩ = some (.int .i64 (kd : Int)) ∧ W.cell? ⟨g, o + k * 4 + 1, none⟩ = some (.int .i64 (fr : Int)) ∧ W.cell? ⟨g, o + k * 4 + 2, none⟩ = some (.int .i64 (tt : Int)) ∧ W.cell? ⟨g, o + k * 4 + 3, none⟩ = some (.bool op) := fun W h => by
          obtain ⟨g', o', he, _, hc'⟩ := rd_sat tkc_len h.rd hget rfl
          injection he with he
          injection he with h1 h2
          subst h1 h2
          exact ⟨hc' 0 _ rfl, hc' 1 _ rfl, hc' 2 _ rfl, hc' 3 _ rfl⟩
        have HM := Lib.hid (And.intro hm1 (And.intro hm2 (And.intro hs1 (And.intro hinv2 cells))))
        have HR := Lib.hid (And.intro kx (And.intro ky (And.intro rx (And.intro ry (And.intro rt hb)))))
        clear hm1 hm2 hs1 hinv2 kx ky rx ry rt hb hc hget cells
        have hsz : w4.heap.size + 1 + 1 < wr.heap.size := HR.out.2.1.lt
        have hsz1 : w4.heap.size + 1 < wr.heap.size := by omega
        have hsz2 : w4.heap.size + 1 < wr.heap.size + 1 := by omega
        have hgl2 : g < wr.heap.size + 1 := by omega
        have hgn : ¬ g = wr.heap.size := by omega
        have hgm : ¬ g = wr.heap.size + 1 := by omega
        have hxn : ¬ w4.heap.size + 1 = wr.heap.size := by omega
        have hxm : ¬ w4.heap.size + 1 = wr.heap.size + 1 := by omega
        go_upto_region 10 with fail
        go_cut [10, 11] (fun s t wx => ∃ (w5 : World) (A6 : Option Addr) (c6 : Nat), Two wr w5 wx s t 33 26 #[.int .i64 (kd : Int), .int .i64 (fr : Int), .int .i64 (tt : Int), .bool op] #[.int .i64 Y.aw, .slice A6 Y.pd.length c6, .bool Y.bd] ∧ Rt w5 75 2 (.slice A6 Y.pd.length c6) Y.pd.length (dcls Y.pd))
        case first =>
          go_region_held3 (fun w' => w'.cell? ⟨g, o + k * 4 + 1, none⟩ = some (.int .i64 (fr : Int)) ∧ w'.cell? ⟨w4.heap.size + 1, 0, none⟩ = some (.int .i64 X.aw) ∧ w'.cell? ⟨w4.heap.size + 1, 1, none⟩ = some (.slice A1 X.pd.length c1) ∧ w'.cell? ⟨w4.heap.size + 1, 2, none⟩ = some (.bool X.bd))
           (first
            | with_reducible exact ⟨y1, p0, p1, p2⟩
            | (try dsimp only
               repeat' (first
                 | with_reducible assumption
                 | with_reducible apply And.intro
                 | with_reducible refine keep_new ?_
                 | with_reducible refine keep_far ?_ (by omega)
                 | with_reducible refine keep_drew ?_)))
           (
            (go_at_call 17
             with_reducible refine (HM.out.1 _ ?_).mono ?_
             · exact HR.out.2.2.1.next (by go_grown)
             rintro e w5 ⟨v, rfl, ⟨v1, rfl, hr5⟩, hb5⟩
             obtain ⟨A6, c6, rfl⟩ := hr5.form
             unfold lxv
             try have HT := Lib.hid (Bk.below (w := (wr.alloc (.cells #[.int .i64 0, .int .i64 0, .int .i64 0, .bool false] 33)).drew) (Bk.new wr 33 #[.int .i64 0, .int .i64 0, .int .i64 0, .bool false]) hb5 (by simp <;> omega))
             try have HL := Lib.hid (Bk.below (w := (wr.alloc (.cells #[.int .i64 0, .slice none 0 0, .bool false] 26)).drew) (Bk.new wr 26 #[.int .i64 0, .slice none 0 0, .bool false]) hb5 (by simp <;> omega))
             try have HT := Lib.hid (Bk.below (w := ((wr.alloc (.cells #[.int .i64 0, .int .i64 0, .int .i64 0, .bool false] 33)).alloc (.cells #[.int .i64 0, .slice none 0 0, .bool false] 26)).drew) ((Bk.new wr 33 #[.int .i64 0, .int .i64 0, .int .i64 0, .bool false]).alloc _) hb5 (by simp <;> omega))
             try have HL := Lib.hid (Bk.below (w := ((wr.alloc (.cells #[.int .i64 0, .int .i64 0, .int .i64 0, .bool false] 33)).alloc (.cells #[.int .i64 0, .slice none 0 0, .bool false] 26)).drew) (bk_second wr _ _ _ _) hb5 (by simp <;> omega))
             try have HL := Lib.hid (Bk.below (w := ((wr.alloc (.cells #[.int .i64 0, .slice none 0 0, .bool false] 26)).alloc (.cells #[.int .i64 0, .int .i64 0, .int .i64 0, .bool false] 33)).drew) ((Bk.new wr 26 #[.int .i64 0, .slice none 0 0, .bool false]).alloc _) hb5 (by simp <;> omega))
             try have HT := Lib.hid (Bk.below (w := ((wr.alloc (.cells #[.int .i64 0, .slice none 0 0, .bool false] 26)).alloc (.cells #[.int .i64 0, .int .i64 0, .int .i64 0, .bool false] 33)).drew) (bk_second wr _ _ _ _) hb5 (by simp <;> omega))
             try obtain ⟨t4, t5, t6, t7, t0, t1, t2, t3⟩ := HT.out.four
             try obtain ⟨s3, s4, s5, s0, s1, s2⟩ := HL.out.three
             have gl5 : g < w5.heap.size := by have := hb5.size; simp at this; omega
             have gx5 : w4.heap.size + 1 < w5.heap.size := by have := hb5.size; simp at this; omega
             have gl6 : g < w5.heap.size + 1 := by omega
             have gx6 : w4.heap.size + 1 < w5.heap.size + 1 := by omega
             have gn5 : ¬ g = w5.heap.size := by omega
             have gy5 : ¬ w4.heap.size + 1 = w5.heap.size := by omega
             have gn6 : ¬ g = w5.heap.size + 1 := by omega
             have gy6 : ¬ w4.heap.size + 1 = w5.heap.size + 1 := by omega
             try have ltw : wr.heap.size < w5.heap.size := by have := hb5.size; simp at this; omega
             try have ltv : wr.heap.size + 1 < w5.heap.size := by have := hb5.size; simp at this; omega
             try have lne : ¬ w5.heap.size = wr.heap.size := by omega
             try have lnf : ¬ wr.heap.size = w5.heap.size := by omega
             have hbx : Below wr.heap.size wr w5 := (show Below wr.heap.size wr _ by go_grown).trans (hb5.mono (by simp <;> omega))
             have kx := HR.out.1.below hbx HR.out.1.lt
             obtain ⟨y0, y1, y2, y3⟩ := HM.out.2.2.2.2 _ (HR.out.2.2.2.2.1.next hbx)
             obtain ⟨p0, p1, p2, _⟩ := kx.three
             have H5 := Lib.hid (And.intro hr5 (And.intro hb5 hbx))
             clear hr5 hb5 hbx kx))
          all_goals (
            go_wp2_with fail
            go_meet
            obtain ⟨hr5, hb5, hbx⟩ := H5.out
            refine ⟨w5, A6, c6, ?_, hr5⟩)
          · exact two1 hbx
          · exact two2 hbx
          · exact two3 HT.out hbx (Nat.le_refl _)
          · exact two4 HT.out HL.out (by omega) hbx (Nat.le_refl _) (by omega)
          · exact two5 HL.out hbx (Nat.le_refl _)
          · exact two4 HT.out HL.out (by omega) hbx (by omega) (Nat.le_refl _)
        case rest =>
          obtain ⟨w5, A6, c6, ⟨b1, b2, rfl, rfl, kT, kZ, hb12, hw1, hw2, hbc, hkeep⟩, hr5⟩ := hcut
          have rz := hkeep _ _ _ _ _ (by decide) (by decide) hr5
          have kx := HR.out.1.below hbc HR.out.1.lt
          have ky := HR.out.2.1.below hbc HR.out.2.1.lt
          have ry := HR.out.2.2.2.1.next hbc
          have rt := HR.out.2.2.2.2.1.next hbc
          clear hr5 hkeep
          obtain ⟨y0, y1, y2, y3⟩ := HM.out.2.2.2.2 _ rt
          obtain ⟨q0, q1, q2, f0, f1, f2⟩ := ky.three
          have HK := Lib.hid (And.intro kx (And.intro ky (And.intro kT (And.intro kZ (And.intro rz (And.intro ry (And.intro rt hbc)))))))
          clear kx ky kT kZ rz ry rt hbc p0 p1 p2 hsz1 hsz2 hgl2 hgn hgm hxn hxm
          go_upto_region 11 with fail
          go_cut [] (fun wx => ∃ (A7 : Option Addr) (c7 : Nat), Bk wx (w4.heap.size + 1) 26 #[.int .i64 X.aw, .slice A1 X.pd.length c1, .bool X.bd] ∧ Bk wx (w4.heap.size + 1 + 1) 26 #[.int .i64 Y.aw, .slice A7 Y.pd.length c7, .bool Y.bd] ∧
            Bk wx b1 33 #[.int .i64 (kd : Int), .int .i64 (fr : Int), .int .i64 (tt : Int), .bool op] ∧ Bk wx b2 26 #[.int .i64 Y.aw, .slice A6 Y.pd.length c6, .bool Y.bd] ∧ Rt wx 75 2 (.slice A6 Y.pd.length c6) Y.pd.length (dcls Y.pd) ∧ Rt wx 75 2 (.slice A7 Y.pd.length c7) Y.pd.length (dcls Y.pd) ∧
            Rt wx 33 4 (.slice (some ⟨g, o, none⟩) ts.length c) ts.length (tkcs ts) ∧ Below w.heap.size w wx)
          case first =>
           go_region_with
           (
            (go_at_call 18
             with_reducible refine (HM.out.2.1 _ ?_).mono ?_
             · exact HK.out.2.2.2.2.2.1
             rintro e w6 ⟨v, rfl, ⟨v1, rfl, hr6⟩, hb6⟩
             obtain ⟨A7, c7, rfl⟩ := hr6.form
             unfold lxv
             have hb6 : Below wc.heap.size wc w6 := (below_drewN' (Below.refl _ wc) 1).trans hb6
             have ky := HK.out.2.1.below hb6 HK.out.2.1.lt
             obtain ⟨q0, q1, q2, f0, f1, f2⟩ := ky.three
             have H6 := Lib.hid (And.intro hr6 (And.intro ky hb6))
             clear hr6 hb6 ky))
           all_goals (
             go_wp2_with fail
             go_meet
             obtain ⟨hr6, ky, hb6⟩ := H6.out
             obtain ⟨kx, _, kT, kZ, rz, _, rt, hbc⟩ := HK.out
             have hb0 := HR.out.2.2.2.2.2
             have hb1 := hb0.trans (hbc.mono hb0.size)
             have hb2 := hb1.trans (hb6.mono hb1.size)
             have hwN : wr.heap.size ≤ b1 := hw1
             obtain ⟨g1, g2, _, g5, g4⟩ := set3_rt (wr := w) (d0 := .int .i64 Y.aw) (d1 := .slice A7 Y.pd.length c7) (d2 := .bool Y.bd) ky hb2 (by omega) _ rfl
             exact ⟨A7, c7, g5 _ _ _ (kx.below hb6 kx.lt) (by omega), g1, g5 _ _ _ (kT.below hb6 kT.lt) (by omega), g5 _ _ _ (kZ.below hb6 kZ.lt) (by omega), g4 _ _ _ _ _ (by decide) (rz.next hb6), g4 _ _ _ _ _ (by decide) hr6, g4 _ _ _ _ _ (by decide) (rt.next hb6), g2⟩)
          case rest =>
           obtain ⟨A7, c7, kx, ky, kT, kZ, rz, ry, rt, hbw⟩ := hcut
           clear y0 y1 y2 y3 q0 q1 q2 f0 f1 f2
           obtain ⟨y0, y1, y2, y3⟩ := HM.out.2.2.2.2 _ rt
           obtain ⟨q0, q1, q2, _⟩ := ky.three
           obtain ⟨t0, t1, t2, t3, _⟩ := kT.four
           obtain ⟨s0, s1, s2, _⟩ := kZ.three
           have hsm := same9_r Y Y A6 A7 c6 c7
           rw [(sameL_iff Y Y).2 rfl] at hsm
           have HS := Lib.hid hsm
           have hypd : Y.pd.length ≤ 9223372036854775807 := by have := HM.out.2.2.2.1.2; omega
           have HK := Lib.hid (And.intro kx (And.intro ky (And.intro kT (And.intro kZ (And.intro rz (And.intro ry (And.intro rt hbw)))))))
           clear kx ky kT kZ rz ry rt hbw hsm
           go_upto_region 12 with fail
           go_region_held3 (fun w' => w'.cell? ⟨g, o + k * 4, none⟩ = some (.int .i64 (kd : Int)) ∧ w'.cell? ⟨g, o + k * 4 + 1, none⟩ = some (.int .i64 (fr : Int)) ∧ w'.cell? ⟨g, o + k * 4 + 2, none⟩ = some (.int .i64 (tt : Int)) ∧ w'.cell? ⟨g, o + k * 4 + 3, none⟩ = some (.bool op) ∧
               w'.cell? ⟨w4.heap.size + 1 + 1, 0, none⟩ = some (.int .i64 Y.aw) ∧ w'.cell? ⟨w4.heap.size + 1 + 1, 1, none⟩ = some (.slice A7 Y.pd.length c7) ∧ w'.cell? ⟨w4.heap.size + 1 + 1, 2, none⟩ = some (.bool Y.bd) ∧
               w'.cell? ⟨b1, 0, none⟩ = some (.int .i64 (kd : Int)) ∧ w'.cell? ⟨b1, 1, none⟩ = some (.int .i64 (fr : Int)) ∧ w'.cell? ⟨b1, 2, none⟩ = some (.int .i64 (tt : Int)) ∧ w'.cell? ⟨b1, 3, none⟩ = some (.bool op) ∧
               w'.cell? ⟨b2, 0, none⟩ = some (.int .i64 Y.aw) ∧ w'.cell? ⟨b2, 1, none⟩ = some (.slice A6 Y.pd.length c6) ∧ w'.cell? ⟨b2, 2, none⟩ = some (.bool Y.bd))
            (first
             | with_reducible exact ⟨y0, y1, y2, y3, q0, q1, q2, t0, t1, t2, t3, s0, s1, s2⟩
             | exact ⟨y0, y1, y2, y3, q0, q1, q2, t0, t1, t2, t3, s0, s1, s2⟩)
            (
             (go_at_call 16
              refine (HS.out _ ?_ ?_ hypd hypd).mono ?_
              · exact HK.out.2.2.2.2.1.rd
              · exact HK.out.2.2.2.2.2.1.rd
              rintro e w7 ⟨rfl, hb7⟩
              have hb7 : Below wc.heap.size wc w7 := (below_drewN' (Below.refl _ wc) 1).trans hb7
              obtain ⟨kx, ky, kT, kZ, rz, ry, rt, hbw⟩ := HK.out
              have kx := kx.below hb7 kx.lt
              have ky := ky.below hb7 ky.lt
              have kT := kT.below hb7 kT.lt
              have kZ := kZ.below hb7 kZ.lt
              have rz := rz.next hb7
              have ry := ry.next hb7
              have rt := rt.next hb7
              have hbw := hbw.trans (hb7.mono hbw.size)
              clear y0 y1 y2 y3 q0 q1 q2 t0 t1 t2 t3 s0 s1 s2
              obtain ⟨y0, y1, y2, y3⟩ := HM.out.2.2.2.2 _ rt
              obtain ⟨q0, q1, q2, _⟩ := ky.three
              obtain ⟨t0, t1, t2, t3, _⟩ := kT.four
              obtain ⟨s0, s1, s2, _⟩ := kZ.three
              obtain ⟨p0, p1, p2, f0, f1, f2⟩ := kx.three
              have H7 := Lib.hid (And.intro kx (And.intro ky (And.intro kZ (And.intro rz (And.intro ry (And.intro rt hbw))))))
              clear kx ky kT kZ rz ry rt hbw hb7))
           all_goals (
             go_wp2_with fail
             obtain ⟨kx, ky, kZ, rz, ry, rt, hbw⟩ := H7.out
             obtain ⟨g1, g2, _, g5, g4⟩ := set3_rt (wr := w) (d0 := .int .i64 Y.aw) (d1 := .slice A6 Y.pd.length c6) (d2 := .bool Y.bd) kx hbw (by omega) _ rfl
             exact ⟨⟨k + 1, tt, Y, A6, A7, c6, c7, by omega, by go_num, HM.out.2.2.1, HM.out.2.2.2.1, hto2, g1, g5 _ _ _ ky (by omega), g4 _ _ _ _ _ (by decide) rz, g4 _ _ _ _ _ (by decide) ry, g4 _ _ _ _ _ (by decide) rt, g2⟩, by simp [intOf]; omega⟩)
      · have u1 : ¬ (k : Int) < (ts.length : Int) := by omega
        have hxp : X.pd.length ≤ 9223372036854775807 := by have := hinv.2; omega
        have hsm := same9_r X X A1 A1 c1 c1
        rw [(sameL_iff X X).2 rfl] at hsm
        have HS := Lib.hid hsm
        have HR := Lib.hid (And.intro kx (And.intro rx hb))
        clear kx ky rx ry rt hb hst hinv hsm q0 q1 q2
        by_cases hin : 0 ≤ p ∧ p < (l.length : Int)
        · have d0 : decide (0 ≤ p) = true := by simpa using hin.1
          have d1 : decide (p < (l.length : Int)) = true := by simpa using hin.2
          go_wp2_with fail
          go_ret
          exact ⟨rfl, HR.out.2.2⟩
        · have hout := fun W => step9_out l p X.aw X.bd A1 X.pd.length c1 W hl (by omega)
          unfold lxv tkv tk0 at hout
          have HO := Lib.hid hout
          clear hout
          have dd : (decide (0 ≤ p) = false) ∨ (decide (0 ≤ p) = true ∧ decide (p < (l.length : Int)) = false) := by
            simp only [decide_eq_false_iff_not, decide_eq_true_eq]
            omega
          have hsz := HR.out.1.lt
          rcases dd with d0 | ⟨d0, d1⟩ <;>
          · go_wp2_with (first
              | (go_at_call 17
                 with_reducible refine (HO.out _).mono ?_
                 rintro e w5 ⟨rfl, hb5⟩
                 have hbw := HR.out.2.2.trans (hb5.mono HR.out.2.2.size)
                 have kx := HR.out.1.below hb5 HR.out.1.lt
                 have rx := HR.out.2.1.next hb5
                 have h5 := kx.lt
                 have h6 : w4.heap.size + 1 < w5.heap.size + 1 := by omega
                 obtain ⟨p0, p1, p2, _⟩ := kx.three
                 have H5 := Lib.hid (And.intro kx (And.intro rx hbw))
                 clear kx rx hbw hb5)
              | (go_at_call 16
                 refine (HS.out _ ?_ ?_ hxp hxp).mono ?_
                 · exact ((H5.out.2.1.next (Below.alloc (Below.refl _ _) (Nat.le_refl _) _)).next (Below.alloc (Below.refl _ _) (Nat.le_refl _) _)).rd
                 · exact ((H5.out.2.1.next (Below.alloc (Below.refl _ _) (Nat.le_refl _) _)).next (Below.alloc (Below.refl _ _) (Nat.le_refl _) _)).rd
                 rintro e w7 ⟨rfl, hb7⟩
                 have hbz := (H5.out.2.2.alloc H5.out.2.2.size (.cells #[.int .i64 0, .int .i64 0, .int .i64 0, .bool false] 33)).alloc (by have := H5.out.2.2.size; simp; omega) (.cells #[.int .i64 X.aw, .slice A1 X.pd.length c1, .bool X.bd] 26)
                 have H7 := Lib.hid (hbz.trans (hb7.mono hbz.size))
                 clear hb7 hbz))
            go_ret
            exact ⟨rfl, H7.out⟩
end Go.Proofs.YtffngggdelmkpaaGreatDoor
