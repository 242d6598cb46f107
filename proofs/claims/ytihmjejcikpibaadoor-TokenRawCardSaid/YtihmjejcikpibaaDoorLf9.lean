/- token.Leaves: the tokens that mean something to the grammar. -/
import Derived.Test.YtihmjejcikpibaaDoorTz9
import Derived.Test.YtihmjejcikpibaaDoorPa0
namespace Go.Proofs.YtihmjejcikpibaaDoor
open Go.RowKit
set_option linter.unusedVariables false
set_option linter.unusedSimpArgs false
set_option maxRecDepth 100000
theorem Tryd.infoLeaf : (Tryd.prog.info? 43).map (fun i => (i.zero, i.size, i.bytes)) = some (some (.agg #[.int .i64 0, .string ⟨#[]⟩, .int .i64 0, .int .i64 0]), 4, 40) := by kernel_rfl
theorem leafK_ways (k : Int) : ((k == 4) = true ∧ leafK k = true) ∨ ((k == 4) = false ∧ (k == 5) = true ∧ leafK k = true) ∨ ((k == 4) = false ∧ (k == 5) = false ∧ (k == 6) = true ∧ leafK k = true) ∨
    ((k == 4) = false ∧ (k == 5) = false ∧ (k == 6) = false ∧ (k == 2) = true ∧ leafK k = true) ∨ ((k == 4) = false ∧ (k == 5) = false ∧ (k == 6) = false ∧ (k == 2) = false ∧ leafK k = false) := by
  unfold leafK
  cases h4 : k == 4 <;> cases h5 : k == 5 <;> cases h6 : k == 6 <;> cases h2 : k == 2 <;> simp
set_option maxHeartbeats 4000000 in
theorem leaves_z (l : List UInt8) (ts : List Tz) (A : Option Addr) (c : Nat) (w : World) (hl : l.length ≤ 100000) (ht : ts.length ≤ 100000) (hR : Rd w w.heap.size 4 (.slice A ts.length c) ts.length (ts.flatMap tzc)) :
    Calls Tryd.prog 15 #[.string ⟨l.toArray⟩, .slice A ts.length c] w fun e w' => ∃ v, e = .returned v ∧ w'.ownsRow w.heap.size 43 4 v (leavesZ l ts).length (lfcs (leavesZ l ts)) ∧ Below w.heap.size w w' := by
  obtain ⟨i0, hi0, hz0, hz1, hz2⟩ := info_parts Tryd.infoLeaf
  have H0 := Lib.hid hR
  clear hR
  go_enter Tryd.func15, Tryd.ntmps15
  go_wp2
  go_loopw [4, 6, 9] (fun o b i wr => ∃ k : Nat, k ≤ ts.length ∧ i = .int .i64 k ∧ wr.ownsRow w.heap.size 43 4 o (leavesZ l (ts.take k)).length (lfcs (leavesZ l (ts.take k))) ∧ Below w.heap.size w wr) (fun o b i _ => ts.length - (intOf i).toNat)
  case atStart => exact ⟨0, Nat.zero_le _, rfl, World.ownsRow_nil _ _ _ _, Below.refl _ _⟩
  case round =>
    obtain ⟨k, hk, rfl, ho, hb⟩ := hrel
    by_cases hlt : k < ts.length
    · obtain ⟨⟨kd, fr, to, op⟩, hget⟩ : ∃ t, ts[k]? = some t := ⟨_, List.getElem?_eq_getElem hlt⟩
      obtain ⟨g, q, rfl, _, hc⟩ := rd_at tzc_len (H0.out.keep hb (Nat.le_refl _)) hget rfl
      have y0 : wr.cell? ⟨g, q + k * 4, none⟩ = some (.int .i64 kd) := hc 0 _ rfl
      have y1 : wr.cell? ⟨g, q + k * 4 + 1, none⟩ = some (.int .i64 fr) := hc 1 _ rfl
      have y2 : wr.cell? ⟨g, q + k * 4 + 2, none⟩ = some (.int .i64 to) := hc 2 _ rfl
      have y3 : wr.cell? ⟨g, q + k * 4 + 3, none⟩ = some (.bool op) := hc 3 _ rfl
      have u1 : (k : Int) < (ts.length : Int) := by omega
      have u2 : (0 : Int) ≤ (k : Int) := by omega
      have hlen : (leavesZ l (ts.take k)).length ≤ 100000 := by
        have := leavesZ_len l (ts.take k)
        rw [List.length_take] at this
        omega
      have hsuc := leavesZ_take l ts hget
      obtain ⟨L, hL⟩ : ∃ L, L = leavesZ l (ts.take k) := ⟨_, rfl⟩
      have hleaf : ∀ b b', inZ l ⟨kd, fr, to, op⟩ = b → leafK kd = b' → leafZ l ⟨kd, fr, to, op⟩ = if b = true ∧ b' = true then [⟨kd, txZ l ⟨kd, fr, to, op⟩, fr, to⟩] else [] := by rintro b b' rfl rfl; rfl
      have htx : ∀ W, l.length ≤ 9223372036854775807 → Calls Tryd.prog 12 #[.string ⟨l.toArray⟩, .agg #[.int .i64 kd, .int .i64 fr, .int .i64 to, .bool op]] W fun e w' => e = .returned (.string ⟨(txZ l ⟨kd, fr, to, op⟩).toArray⟩) ∧ Below W.heap.size W w' := text9_z l ⟨kd, fr, to, op⟩
      rw [← hL] at hsuc ho hlen
      have hways : (decide (fr < 0) = true ∧ inZ l ⟨kd, fr, to, op⟩ = false) ∨ (decide (fr < 0) = false ∧ decide (to < fr) = true ∧ inZ l ⟨kd, fr, to, op⟩ = false) ∨ (decide (fr < 0) = false ∧ decide (to < fr) = false ∧ decide ((l.length : Int) < to) = true ∧ inZ l ⟨kd, fr, to, op⟩ = false) ∨ (decide (fr < 0) = false ∧ decide (to < fr) = false ∧ decide ((l.length : Int) < to) = false ∧ inZ l ⟨kd, fr, to, op⟩ = true) := inZ_ways l ⟨kd, fr, to, op⟩
      have kways := leafK_ways kd
      generalize inZ l ⟨kd, fr, to, op⟩ = bi at hways hleaf
      generalize leafK kd = bk at kways hleaf
      have hleaf := hleaf bi bk rfl rfl
      obtain ⟨X, hX⟩ : ∃ X, X = txZ l ⟨kd, fr, to, op⟩ := ⟨_, rfl⟩
      rw [← hX] at hleaf htx
      obtain ⟨A2, n2, c2, rfl⟩ := own_form' ho
      obtain rfl := own_len ho
      have HP := Lib.hid (And.intro ho (And.intro hb (And.intro hsuc (And.intro hleaf htx))))
      clear ho hb hsuc hleaf htx hc hget hL hX
      have hskip : leafZ l ⟨kd, fr, to, op⟩ = [] → ((∃ m : Nat, m ≤ ts.length ∧ Value.int .i64 ((k : Int) + 1) = .int .i64 m ∧ (wr.alloc (.cells #[.int .i64 kd, .int .i64 fr, .int .i64 to, .bool op] 30)).ownsRow w.heap.size 43 4 (.slice A2 L.length c2) (leavesZ l (ts.take m)).length (lfcs (leavesZ l (ts.take m))) ∧ Below w.heap.size w (wr.alloc (.cells #[.int .i64 kd, .int .i64 fr, .int .i64 to, .bool op] 30)))) := by
        intro h0
        have hs := HP.out.2.2.1
        rw [h0, List.append_nil] at hs
        refine ⟨k + 1, by omega, by go_num, ?_, HP.out.2.1.alloc HP.out.2.1.size _⟩
        rw [hs]
        exact HP.out.1.alloc _
      have HK := Lib.hid hskip
      clear hskip
      rcases hways with ⟨d0, rfl⟩ | ⟨d0, d1, rfl⟩ | ⟨d0, d1, d2, rfl⟩ | ⟨d0, d1, d2, rfl⟩
      iterate 3
        · clear kways hleaf
          go_wp2_with fail
          exact ⟨HK.out (by rw [HP.out.2.2.2.1]; simp), by simp [intOf]; omega⟩
      · rcases kways with ⟨k4, rfl⟩ | ⟨k4, k5, rfl⟩ | ⟨k4, k5, k6, rfl⟩ | ⟨k4, k5, k6, k2, rfl⟩ | ⟨k4, k5, k6, k2, rfl⟩
        iterate 4
          · go_upto_region 10 with fail
            refine gen1 fun W hbW hkW hsW => ?_
            have hoW := own_below HP.out.1 hbW
            have hbw := HP.out.2.1.trans (hbW.mono HP.out.2.1.size)
            obtain ⟨b0, b1, b2, b3⟩ : W.cell? ⟨wr.heap.size, 0, none⟩ = some (.int .i64 kd) ∧ W.cell? ⟨wr.heap.size, 1, none⟩ = some (.int .i64 fr) ∧ W.cell? ⟨wr.heap.size, 2, none⟩ = some (.int .i64 to) ∧ W.cell? ⟨wr.heap.size, 3, none⟩ = some (.bool op) :=
              ⟨by rw [hkW.cell]; rfl, by rw [hkW.cell]; rfl, by rw [hkW.cell]; rfl, by rw [hkW.cell]; rfl⟩
            have hne : some wr.heap.size ≠ (Value.slice A2 L.length c2).ownBlock := fun h => by have := (HP.out.1.lt _ h.symm).2; omega
            have HW := Lib.hid (And.intro hoW (And.intro hbw (And.intro hkW hne)))
            clear hoW hbw hbW hkW hsW hne y0 y1 y2 y3
            go_region_held3 (fun w' => w'.cell? ⟨wr.heap.size, 0, none⟩ = some (.int .i64 kd) ∧ w'.cell? ⟨wr.heap.size, 1, none⟩ = some (.int .i64 fr) ∧ w'.cell? ⟨wr.heap.size, 2, none⟩ = some (.int .i64 to) ∧ w'.cell? ⟨wr.heap.size, 3, none⟩ = some (.bool op))
              (first
                | with_reducible exact ⟨b0, b1, b2, b3⟩
                | go_keep)
              (first
                | (go_at_call 12
                   with_reducible refine (HP.out.2.2.2.2 _ (by omega)).mono ?_
                   rintro e w5 ⟨rfl, hb5⟩
                   have hb6 : Below W.heap.size W w5 := (below_drewN' (Below.refl _ W) 1).trans hb5
                   have k5 := HW.out.2.2.1.below hb6 HW.out.2.2.1.lt
                   have o5 := own_below HW.out.1 hb6
                   have w5b := HW.out.2.1.trans (hb6.mono HW.out.2.1.size)
                   obtain ⟨b0, b1, b2, b3⟩ : w5.cell? ⟨wr.heap.size, 0, none⟩ = some (.int .i64 kd) ∧ w5.cell? ⟨wr.heap.size, 1, none⟩ = some (.int .i64 fr) ∧ w5.cell? ⟨wr.heap.size, 2, none⟩ = some (.int .i64 to) ∧ w5.cell? ⟨wr.heap.size, 3, none⟩ = some (.bool op) :=
                     ⟨by rw [k5.cell]; rfl, by rw [k5.cell]; rfl, by rw [k5.cell]; rfl, by rw [k5.cell]; rfl⟩
                   have H5 := Lib.hid (And.intro k5 (And.intro o5 w5b))
                   clear hb5 hb6 k5 o5 w5b)
                | (refine step_append_rd rfl (.tmp 37) (.tmp 48) 40 rfl w.heap.size 43 i0 _ 4 40 Tryd.underlying40 hi0 hz0 hz1 hz2 rfl (by decide) (.slice A2 L.length c2) L.length (lfcs L) (by simp [Act.eval]) (H5.out.2.1.alloc _) (.slice (some ⟨w5.heap.size, 0, none⟩) 1 1) 1 (w5.heap.size + 1) (lfcs [⟨kd, X, fr, to⟩]) (by simp [Act.eval]) (rd_new w5 (lfcs [⟨kd, X, fr, to⟩]) 43 4 1 rfl (by omega)) (one_lf _) (by unfold maxLen; omega) (by omega) (by have := H5.out.2.2.size; simp; omega) ?_
                   intro v6 w6 hown6 hg6 hv6
                   have k6 : Bk w6 wr.heap.size 30 #[.int .i64 kd, .int .i64 fr, .int .i64 to, .bool op] := (H5.out.1.alloc _).grown hg6 HW.out.2.2.2
                   obtain ⟨b0, b1, b2, b3⟩ : w6.cell? ⟨wr.heap.size, 0, none⟩ = some (.int .i64 kd) ∧ w6.cell? ⟨wr.heap.size, 1, none⟩ = some (.int .i64 fr) ∧ w6.cell? ⟨wr.heap.size, 2, none⟩ = some (.int .i64 to) ∧ w6.cell? ⟨wr.heap.size, 3, none⟩ = some (.bool op) :=
                     ⟨by rw [k6.cell]; rfl, by rw [k6.cell]; rfl, by rw [k6.cell]; rfl, by rw [k6.cell]; rfl⟩
                   have H6 := Lib.hid (And.intro hown6 hg6)
                   clear hown6 hg6 hv6 k6))
            all_goals (
              go_wp2_with fail
              have hs := HP.out.2.2.1
              rw [HP.out.2.2.2.1, if_pos (by simp)] at hs
              refine ⟨⟨k + 1, by omega, by go_num, ?_, ?_⟩, by simp [intOf]; omega⟩
              · rw [hs, lfcs_app, List.length_append]; exact H6.out.1
              · exact Below.grown (H5.out.2.2.alloc H5.out.2.2.size _) H6.out.2 (by have := H5.out.2.2.size; simp; omega) (fun kk hk => (H5.out.2.1.lt kk hk).1))
        · go_wp2_with fail
          exact ⟨HK.out (by rw [HP.out.2.2.2.1]; simp), by simp [intOf]; omega⟩
    · obtain rfl : k = ts.length := by omega
      rw [List.take_length] at ho
      have HP := Lib.hid (And.intro ho hb)
      clear ho hb
      go_wp2_with fail
      go_ret
      exact ⟨_, rfl, HP.out⟩
end Go.Proofs.YtihmjejcikpibaaDoor
