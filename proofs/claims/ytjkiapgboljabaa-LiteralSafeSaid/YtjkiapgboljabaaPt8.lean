/- literal.Pattern: the text of all pieces, what is quoted with a backslash ahead of each byte. -/
import Derived.Test.YtjkiapgboljabaaVl8
namespace Go.Proofs.Ytjkiapgboljabaa
open Go.RowKit
set_option linter.unusedVariables false
set_option linter.unusedSimpArgs false
set_option maxRecDepth 100000
attribute [local go_sem] Oper.semAt_some
theorem Cb.app2 {B N bx sz M n1 : Nat} {bt e : TypeId} {Bw : World} {n n' : Nat} {xs xs' : List Value} {X : Nat → Prop} {W W1 w1 : World} {v v' : Value} (hv : Boxed W bx bt v) (hrow : W.ownsRow N e sz v n xs) (hnx : ¬ X bx ∧ ∀ k, v.ownBlock = some k → ¬ X k) (hbl : Below B Bw W) (hsz : N ≤ W.heap.size) (hxb : ∀ k, X k → B ≤ k ∧ k < W.heap.size)
    (hbt : bt ≠ e) (hbx : B ≤ bx) (hbN : bx < N) (hn : bx < n1) (hW : Below W.heap.size W W1) (hg : W1.grownBy w1 v.ownBlock) (hown : w1.ownsRow N e sz v' n' xs') (hv' : v'.ownBlock = v.ownBlock ∨ v'.ownBlock = some W1.heap.size) :
    KeepsFrom M W (w1.setCell ⟨bx, 0, none⟩ v') ∧ KeepX N (fun k => k < n1) W (w1.setCell ⟨bx, 0, none⟩ v') ∧ (∀ k, X k → (w1.setCell ⟨bx, 0, none⟩ v').heap[k]? = W.heap[k]?) ∧ Cb B N bx bt e sz Bw n' xs' X (w1.setCell ⟨bx, 0, none⟩ v') := by
  obtain ⟨q1, q2, q3, q4, q5, q6⟩ := box_append (M := M) hv hbt hrow hsz hbN hW hg hown
  refine ⟨q1, ⟨q2.size, fun k hk hx => q2.same k hk (fun e => hx (by have e' : k = bx := e; omega))⟩, fun k hk => ?_, ⟨⟨v', q3, q4, hnx.1, fun k hk hX => ?_⟩, hbl.trans (q5 B hbx), q6, fun k hk => ⟨(hxb k hk).1, Nat.lt_of_lt_of_le (hxb k hk).2 q1.size⟩⟩⟩
  · have hlt := (hxb k hk).2
    refine (Below.heap_setCell _ _ _ k (fun e => hnx.1 (by have e' : k = bx := e; rw [← e']; exact hk))).trans ?_
    exact (hg.block k (by have := hW.size; omega) (fun e => hnx.2 k e.symm hk)).trans (hW.block k hlt)
  · rcases hv' with e | e
    · exact hnx.2 k (by rw [← e]; exact hk) hX
    · rw [e] at hk
      injection hk with hk
      have := (hxb k hX).2
      have := hW.size
      omega
set_option maxHeartbeats 8000000 in
theorem pattern_m (l : List UInt8) (w : World) (hl : l.length ≤ 900) :
    Calls Try.prog 38 #[.string ⟨l.toArray⟩] w fun e w' => e = .returned (.tuple #[.string ⟨(patT l).toArray⟩, .bool (valB l)]) ∧ Below w.heap.size w w' := by
  have hpl := pcsL_len l
  obtain ⟨i0, hi, hz0, hz1, hz2⟩ := info_parts Try.infoByte
  obtain ⟨wa, hwa⟩ : ∃ wa, wa = ((w.alloc (.cells #[.string ⟨#[]⟩] 9)).alloc (.cells #[.bool false] 4)).alloc (.cells #[.slice none 0 0] 80) := ⟨_, rfl⟩
  have hsa : wa.heap.size = w.heap.size + 3 := by rw [hwa]; simp
  have hba : Below w.heap.size w wa := by rw [hwa]; exact (((Below.refl _ w).alloc (Nat.le_refl _) _).alloc (by simp) _).alloc (by simp; omega) _
  have hra : Rs8 w.heap.size (fun _ => False) wa := by
    rw [hwa]
    refine ⟨((Bk.new w _ _).alloc _).alloc _, Bk.alloc ?_ _, fun h => h, fun h => h⟩
    have := Bk.new (w.alloc (.cells #[.string ⟨#[]⟩] 9)) 4 #[.bool false]
    rwa [World.size_alloc] at this
  have hbb : Bk wa (w.heap.size + 2) 80 #[.slice none 0 0] := by
    rw [hwa]
    have := Bk.new ((w.alloc (.cells #[.string ⟨#[]⟩] 9)).alloc (.cells #[.bool false] 4)) 80 #[.slice none 0 0]
    rwa [World.size_alloc, World.size_alloc] at this
  have H := Lib.hid (And.intro hba (And.intro hra (And.intro hbb hwa)))
  clear hba hra hbb hwa
  refine (callsIn_wide (n := 5)).1 ?_
  refine callsIn_of_wp_marks Try.func38 rfl trivial ?_ rfl
  simp only [Try.ntmps38, List.size_toArray, List.length_cons, List.length_nil, Nat.reduceAdd, Nat.reduceSub, Array.replicate_succ, Array.replicate_zero, List.push_toArray, List.append_toArray, List.nil_append, List.cons_append]
  gi_wp2_with (first
    | (refine ⟨trivial, ?_⟩
       gi_at_call 61
       rw [← H.out.2.2.2]
       refine (callsIn_wide.2 (read_m wa l hl)).mono ?_
       rintro e w1 ⟨b, c, m, A, rfl, h1, h2⟩
       rw [hsa] at h1
       have H1 := Lib.hid (And.intro h1 h2)
       clear h1 h2)
    | (refine ⟨trivial, ?_⟩
       gi_at_call 62
       refine (callsIn_wide.2 (each_m b w1)).mono ?_
       rintro e w2 ⟨rfl, hw2⟩
       have hs1 : w.heap.size + 3 ≤ w1.heap.size := by have := H1.out.2.size; omega
       have H2 := Lib.hid (rdr_box2 H1.out.1 hs1 w2 hw2)
       clear hw2))
  obtain ⟨hrd, hrb, hrn, hb2⟩ := H2.out
  have hs2 := hrn.1
  have hs3 := hrn.2
  have hb12 : Below wa.heap.size wa w2 := H1.out.2.trans (hb2.mono (by omega))
  have hbw2 : Bk w2 (w.heap.size + 2) 80 #[.slice none 0 0] := H.out.2.2.1.below hb12 (by omega)
  have hrs2 : Rs8 w.heap.size (fun _ => False) w2 := H.out.2.1.same (hb12.block _ (by omega)) (hb12.block _ (by omega))
  have hBW : Below w.heap.size w w2 := H.out.1.trans (hb12.mono (by omega))
  have HX := Lib.hid (pcsL_tx l)
  refine rangeFunc_x (by omega) (gf := 87) (lb := #[.pointer (some ⟨w1.heap.size, 0, none⟩)]) rfl (enters_of Try.func87 (by kernel_rfl) rfl)
    (each_seq w2.heap.size w1.heap.size b c m (fun k => k < w.heap.size + 3) l A hl w2 hrd hrb hrn (Nat.le_refl _)) (fun h k => h.trans k) (fun W l o o' hl h1 h2 h3 => keepX_put W l o o' hl h1 h2 h3) (Below.refl _ _) (fun _ => rfl)
    (fun X pre W => Cb w.heap.size w2.heap.size (w.heap.size + 2) 80 5 1 w (patL pre).length (bvals (patL pre)) X W ∧ (patL pre).length ≤ pre.length * 1800 ∧ Rs8 w.heap.size X W ∧ pre.any (·.ex) = false)
    (fun cd X pre W => cd = .ret ∧ Rx8 w.heap.size w w.heap.size pre X W)
    ?fits (fun _ _ _ _ _ h hx => ⟨h.1, h.2.fits (Nat.le_refl _) hx⟩) ?own (fun _ _ s W W' row h hg hr => ⟨h.1, Rx8.own (by omega) (Nat.le_refl _) () W W' row h.2 hg hr⟩)
    ⟨⟨⟨_, hbw2, World.ownsRow_nil _ _ _ _, fun h => h, fun _ _ h => h⟩, hBW, Nat.le_refl _, fun _ h => h.elim⟩, by simp [patL], hrs2, rfl⟩
    (fun x a' W => x.tx.length ≤ 900 ∧ ∃ bb, Bk W bb 56 (pcc x).toArray ∧ a' = { tmps := #[.string ⟨l.toArray⟩, undef, .pointer (some ⟨w.heap.size, 0, none⟩), .pointer (some ⟨w.heap.size + 1, 0, none⟩), .pointer (some ⟨w.heap.size + 2, 0, none⟩), .pointer (some ⟨bb, 0, none⟩), undef, .string ⟨l.toArray⟩, .pointer (some ⟨b, 0, none⟩), .func (.func 87) #[] #[.pointer (some ⟨w1.heap.size, 0, none⟩)], .agg #[.bool x.ex, .bool x.qu, .string ⟨x.tx.toArray⟩], undef, undef, undef, undef, undef, undef, undef, undef, undef, undef, undef, undef, undef, undef, undef, undef, undef, undef, undef, undef, undef, undef, undef, undef, undef, undef, undef], defers := [] })
    (fun x a' => OwnFrom.and (fun _ _ _ _ h _ _ => h) (bk_own _ _ _ _)) ?assign ?body ?done ?stop
  case fits =>
    rintro X s A C ⟨h1, h2, h3, h4⟩ hx
    exact ⟨Cb.fits (n := fun pre : List Pc => (patL pre).length) (xs := fun pre => bvals (patL pre)) (by omega) X s A C h1 hx, h2, h3.fits hx, h4⟩
  case own =>
    rintro X s W W' row ⟨h1, h2, h3, h4⟩ hg hr
    exact ⟨cb_own _ _ _ _ _ _ _ _ _ _ X (by omega) (Nat.le_refl _) () W W' row h1 hg hr, h2, Rs8.own () W W' row h3 hg hr, h4⟩
  case assign =>
    rintro l' X pre x W K ⟨hI, hI2, hI3, hI4⟩ hpx hK
    gi_wp2
    have hx9 : x.tx.length ≤ 900 := Nat.le_trans (HX.out x (hpx.subset (by simp))) hl
    exact hK _ _ (keepsFrom_below (Below.alloc (Below.refl _ _) (Nat.le_refl _) _)) (KeepX.of_below (Below.alloc (Below.refl _ _) (Nat.le_refl _) _) hI.sz) (fun k hk => Below.heap_alloc _ _ _ (hI.xb k hk).2) ⟨hI.alloc (Nat.le_refl _) _, hI2, hI3.same (Below.heap_alloc _ _ _ hI3.s.lt) (Below.heap_alloc _ _ _ hI3.o.lt), hI4⟩ ⟨hx9, _, Bk.new _ _ _, rfl⟩
  case body =>
    rintro l' X pre x a' W hl1 hl2 ⟨⟨⟨v, hv, hrow, hnx⟩, h5, h6, h7⟩, ht, hrs, hne⟩ ⟨hx9, bb, hbk, rfl⟩ hpx
    have hpn : pre.length + 1 ≤ 2000 := by have := hpx.length_le; simp at this; omega
    have hpl9 := patP_len x
    have htl : (patL pre).length ≤ 4000000 := by omega
    obtain ⟨x0, x1, x2, _⟩ := (show Bk W bb 56 #[.bool x.ex, .bool x.qu, .string ⟨x.tx.toArray⟩] from hbk).three
    have c0 := hrs.s.cell 0
    have c1 := hrs.o.cell 0
    simp only [List.getElem?_toArray, List.getElem?_cons_zero] at c0 c1
    have f0 := hrs.s.frozen 0
    have f1 := hrs.o.frozen 0
    have hrl := hrs.o.lt
    have c2 := hv.cell
    have f2 := hv.frozen
    have HW := Lib.hid (And.intro hv (And.intro hrow (And.intro hnx (And.intro h5 (And.intro h6 (And.intro h7 hbk))))))
    have HZ := Lib.hid (And.intro hrs hne)
    clear hv hrow hnx h5 h7 hpx hbk hl2 hrs hne
    cases hx : x.ex
    · have Hx := Lib.hid hx
      rw [hx] at x0
      clear hx
      cases hq : x.qu
      · have Hq := Lib.hid hq
        rw [hq] at x1
        clear hq
        gi_wp2_with (
          (gi_at_builtin
           refine wpListIn_append_str _ rfl (.tmp 32) (.tmp 34) 80 9 rfl w2.heap.size 5 i0 Try.underlying80 Try.underlying9 hi hz0 hz1 hz2 v (patL pre).length (bvals (patL pre)) rfl HW.out.2.1 ⟨x.tx.toArray⟩ rfl (by show (patL pre).length + x.tx.length ≤ maxLen; unfold maxLen; omega) (by show (patL pre).length + x.tx.length ≤ _; omega) h6 ?_
           intro v6 w6 hown6 hg6 hv6
           obtain ⟨A6, n6, k6, rfl⟩ := own_form' hown6
           obtain ⟨hv, hrow, hnx, h5, _, h7, hbk⟩ := HW.out
           have hb6 := box_grown hv (by decide) hrow (Below.refl _ W) hg6
           have c6 := hb6.cell
           have f6 := hb6.frozen
           have hr6 := HZ.out.1.same (W' := w6.setCell ⟨w.heap.size + 2, 0, none⟩ (.slice A6 n6 k6)) ((Below.heap_setCell _ _ _ _ (by show w.heap.size ≠ w.heap.size + 2; omega)).trans (hg6.block _ (by omega) (fun e => by have := (hrow.lt _ e.symm).1; omega))) ((Below.heap_setCell _ _ _ _ (by show w.heap.size + 1 ≠ w.heap.size + 2; omega)).trans (hg6.block _ (by omega) (fun e => by have := (hrow.lt _ e.symm).1; omega)))
           have H8 := Lib.hid (And.intro hr6 (Cb.app2 (M := w2.heap.size) (n1 := w.heap.size + 3) hv hrow hnx h5 h6 h7 (by decide) (by omega) (by omega) (by omega) (Below.refl _ W) hg6 hown6 hv6))
           clear hown6 hg6 hv6 hb6 hv hrow hnx h5 h7 hbk hr6))
        obtain ⟨hr8, q1, q2, q3, q4⟩ := H8.out
        have ep : patP x = x.tx := by unfold patP; rw [Hq.out]; rfl
        exact ⟨q1, q2, q3, by rw [patL_snoc, ep, List.length_append, bvals_app, ← str_cells x.tx]; exact q4, by rw [patL_snoc, List.length_append, List.length_append]; simp only [List.length_cons, List.length_nil]; omega, hr8, by rw [List.any_append, HZ.out.2]; simp [Hx.out]⟩
      · have Hq := Lib.hid hq
        rw [hq] at x1
        clear hq
        gi_wp2_with fail
        gi_loopw [14, 6] (fun i s wx => ∃ (j : Nat) (T : List UInt8), j ≤ x.tx.length ∧ i = .int .i64 (j : Int) ∧ KeepsFrom w2.heap.size W wx ∧ KeepX w2.heap.size (fun k => k < w.heap.size + 3) W wx ∧ (∀ k, X k → wx.heap[k]? = W.heap[k]?) ∧ Cb w.heap.size w2.heap.size (w.heap.size + 2) 80 5 1 w T.length (bvals T) X wx ∧ Rs8 w.heap.size X wx ∧ Bk wx bb 56 (pcc x).toArray ∧ T = patL pre ++ qbs (x.tx.take j)) (fun i _ _ => x.tx.length - (intOf i).toNat)
        case atStart => exact ⟨0, patL pre, by omega, rfl, KeepsFrom.refl _ _, KeepX.refl _ _ _, fun _ _ => rfl, ⟨⟨v, HW.out.1, HW.out.2.1, HW.out.2.2.1⟩, HW.out.2.2.2.1, h6, HW.out.2.2.2.2.2.1⟩, HZ.out.1, HW.out.2.2.2.2.2.2, by simp [qbs]⟩
        case round =>
          obtain ⟨j, T, hj, rfl, k1, k2, k3, k4, k5, k6, k7⟩ := hrel
          obtain ⟨⟨v5, hv5, hrow5, hnx5⟩, k8, k9, k10⟩ := k4
          have c5' := hv5.cell
          have f5' := hv5.frozen
          obtain ⟨y0, y1, y2, _⟩ := (show Bk wr bb 56 #[.bool x.ex, .bool x.qu, .string ⟨x.tx.toArray⟩] from k6).three
          have hTl : T.length ≤ 5000000 := by rw [k7, List.length_append, qbs_len]; simp; omega
          by_cases hlt : j < x.tx.length
          · have u1 : (j : Int) < (x.tx.length : Int) := by omega
            have u2 : (0 : Int) ≤ (j : Int) := by omega
            obtain ⟨d, hd⟩ : ∃ d, x.tx[j]? = some d := ⟨_, List.getElem?_eq_getElem hlt⟩
            obtain ⟨hL1, hL2⟩ := List.getElem?_eq_some_iff.1 hd
            have hL : ∃ h : j < (ByteArray.mk x.tx.toArray).size, (ByteArray.mk x.tx.toArray)[j]'h = d := ⟨hL1, hL2⟩
            obtain ⟨hL3, hL4⟩ := hL
            have HD := Lib.hid (show x.tx.take (j + 1) = x.tx.take j ++ [d] by rw [List.take_succ_eq_append_getElem hL1, hL2])
            clear hL2 hd
            obtain ⟨A5, n5, c5, hv⟩ := own_form' hrow5
            subst hv
            have hn5 := own_len hrow5
            subst hn5
            have H4 := Lib.hid (And.intro ((own_drew hrow5).alloc (.cells (bvals [92, d]).toArray 5)) (rd_new wr.drew (bvals [92, d]) 5 1 2 rfl (by omega)))
            have hbl := hv5.lt
            have hpb := k6.lt
            have HJ := Lib.hid (And.intro k1 (And.intro k2 (And.intro k3 (And.intro hv5 (And.intro hrow5 (And.intro hnx5 (And.intro k8 (And.intro k9 (And.intro k10 (And.intro k5 (And.intro k6 k7)))))))))))
            have hmix : Try.prog.follows .mixedOrders = true := by kernel_rfl
            clear k1 k2 k3 hv5 hrow5 hnx5 k8 k10 k5 k6 k7
            gi_wp2_with fail
            refine wpIn_region_any hmix ?_
            refine wpAnyIn_ready (rs := [0, 1, 3]) (by kernel_rfl) (by simp) ?_
            refine AllReadyIn.cons rfl (fun K hK => ?_) (AllReadyIn.cons rfl (fun K hK => ?_) (AllReadyIn.cons rfl (fun K hK => ?_) AllReadyIn.nil))
            · go_simp
              refine hK _ _ ?_
              clear hK K
              refine wpAnyIn_ready (rs := [1, 3]) (by kernel_rfl) (by simp) ?_
              refine AllReadyIn.cons rfl (fun K hK => ?_) (AllReadyIn.cons rfl (fun K hK => ?_) AllReadyIn.nil)
              · go_simp
                refine hK _ _ ?_
                clear hK K
                refine wpAnyIn_ready (rs := [2, 3]) (by kernel_rfl) (by simp) ?_
                refine AllReadyIn.cons rfl (fun K hK => ?_) (AllReadyIn.cons rfl (fun K hK => ?_) AllReadyIn.nil)
                · go_simp
                  refine hK _ _ ?_
                  clear hK K
                  refine wpAnyIn_ready (rs := [3]) (by kernel_rfl) (by simp) ?_
                  refine AllReadyIn.cons rfl (fun K hK => ?_) AllReadyIn.nil
                  go_simp
                  refine hK _ _ ?_
                  clear hK K
                  refine wpAnyIn_ready (rs := [4]) (by kernel_rfl) (by simp) ?_
                  refine AllReadyIn.cons rfl (fun K hK => ?_) AllReadyIn.nil
                  go_simp
                  refine hK _ _ ?_
                  clear hK K
                  refine wpAnyIn_ready (rs := [5]) (by kernel_rfl) (by simp) ?_
                  refine AllReadyIn.cons rfl (fun K hK => ?_) AllReadyIn.nil
                  go_simp
                  refine hK _ _ ?_
                  clear hK K
                  refine wpAnyIn_ready (rs := [6]) (by kernel_rfl) (by simp) ?_
                  refine AllReadyIn.cons rfl (fun K hK => ?_) AllReadyIn.nil
                  refine stepIn_append_rd rfl (.tmp 17) (.tmp 22) 80 rfl w2.heap.size 5 i0 _ 1 1 Try.underlying80 hi hz0 hz1 hz2 rfl (by decide) (.slice A5 T.length c5) T.length (bvals T) rfl H4.out.1 (.slice (some ⟨wr.heap.size, 0, none⟩) 2 2) 2 (wr.heap.size + 1) (bvals [92, d]) rfl H4.out.2 (one_bytes _) (by unfold maxLen; omega) (by omega) (by simp; omega) ?_
                  intro v6 w6 hown6 hg6 hv6
                  obtain ⟨A6, n6, c6', rfl⟩ := own_form' hown6
                  obtain ⟨k1, k2, k3, hv5, hrow5, hnx5, k8, k9, k10, k5, k6, k7⟩ := HJ.out
                  have hW1 : Below wr.heap.size wr (wr.drew.alloc (.cells (bvals [92, d]).toArray 5)) := Below.alloc (Below.drew (Below.refl _ wr)) (Nat.le_refl _) _
                  have hb6 := box_grown hv5 (by decide) hrow5 hW1 hg6
                  have c6 := hb6.cell
                  have f6 := hb6.frozen
                  have hr6 := k5.same (W' := w6.setCell ⟨w.heap.size + 2, 0, none⟩ (.slice A6 n6 c6')) ((Below.heap_setCell _ _ _ _ (by show w.heap.size ≠ w.heap.size + 2; omega)).trans ((hg6.block _ (Nat.lt_of_lt_of_le k5.s.lt hW1.size) (fun e => by have := (hrow5.lt _ e.symm).1; omega)).trans (hW1.block _ k5.s.lt))) ((Below.heap_setCell _ _ _ _ (by show w.heap.size + 1 ≠ w.heap.size + 2; omega)).trans ((hg6.block _ (Nat.lt_of_lt_of_le k5.o.lt hW1.size) (fun e => by have := (hrow5.lt _ e.symm).1; omega)).trans (hW1.block _ k5.o.lt)))
                  have hp6 := ((k6.below hW1 k6.lt).grown hg6 (own_ne hrow5 k6 (by decide)).symm).far (p := ⟨w.heap.size + 2, 0, none⟩) (bk_ne k6 (show Bk wr (w.heap.size + 2) 80 _ from hv5) (by decide)) (.slice A6 n6 c6')
                  have H6 := Lib.hid (And.intro hr6 (And.intro hp6 (Cb.app2 (M := w2.heap.size) (n1 := w.heap.size + 3) hv5 hrow5 hnx5 k8 k9 k10 (by decide) (by omega) (by omega) (by omega) hW1 hg6 hown6 hv6)))
                  clear hown6 hg6 hv6 hb6 hr6 hp6 hW1 k1 k2 k3 hv5 hrow5 hnx5 k8 k10 k5 k6 k7
                  refine hK _ _ ?_
                  clear hK K
                  refine wpAnyIn_ready (rs := [7]) (by kernel_rfl) (by simp) ?_
                  refine AllReadyIn.cons rfl (fun K hK => ?_) AllReadyIn.nil
                  go_simp
                  refine hK _ _ ?_
                  clear hK K
                  refine wpAnyIn_done (by kernel_rfl) ?_ _
                  gi_wp2_with fail
                  obtain ⟨hr6, hp6, q1, q2, q3, q4⟩ := H6.out
                  obtain ⟨k1, k2, k3, hv5, hrow5, hnx5, k8, _, k10, k5, k6, k7⟩ := HJ.out
                  exact ⟨⟨j + 1, T ++ [92, d], by omega, by go_num, k1.trans q1, k2.trans q2, fun k hk => (q3 k hk).trans (k3 k hk), by rw [bvals_app, List.length_append]; exact q4, hr6, hp6, by rw [k7, HD.out, qbs_snoc, List.append_assoc]⟩, by simp [intOf]; omega⟩
                · go_simp
                  refine hK _ _ ?_
                  clear hK K
                  refine wpAnyIn_ready (rs := [2]) (by kernel_rfl) (by simp) ?_
                  refine AllReadyIn.cons rfl (fun K hK => ?_) AllReadyIn.nil
                  go_simp
                  refine hK _ _ ?_
                  clear hK K
                  refine wpAnyIn_ready (rs := [4]) (by kernel_rfl) (by simp) ?_
                  refine AllReadyIn.cons rfl (fun K hK => ?_) AllReadyIn.nil
                  go_simp
                  refine hK _ _ ?_
                  clear hK K
                  refine wpAnyIn_ready (rs := [5]) (by kernel_rfl) (by simp) ?_
                  refine AllReadyIn.cons rfl (fun K hK => ?_) AllReadyIn.nil
                  go_simp
                  refine hK _ _ ?_
                  clear hK K
                  refine wpAnyIn_ready (rs := [6]) (by kernel_rfl) (by simp) ?_
                  refine AllReadyIn.cons rfl (fun K hK => ?_) AllReadyIn.nil
                  refine stepIn_append_rd rfl (.tmp 17) (.tmp 22) 80 rfl w2.heap.size 5 i0 _ 1 1 Try.underlying80 hi hz0 hz1 hz2 rfl (by decide) (.slice A5 T.length c5) T.length (bvals T) rfl H4.out.1 (.slice (some ⟨wr.heap.size, 0, none⟩) 2 2) 2 (wr.heap.size + 1) (bvals [92, d]) rfl H4.out.2 (one_bytes _) (by unfold maxLen; omega) (by omega) (by simp; omega) ?_
                  intro v6 w6 hown6 hg6 hv6
                  obtain ⟨A6, n6, c6', rfl⟩ := own_form' hown6
                  obtain ⟨k1, k2, k3, hv5, hrow5, hnx5, k8, k9, k10, k5, k6, k7⟩ := HJ.out
                  have hW1 : Below wr.heap.size wr (wr.drew.alloc (.cells (bvals [92, d]).toArray 5)) := Below.alloc (Below.drew (Below.refl _ wr)) (Nat.le_refl _) _
                  have hb6 := box_grown hv5 (by decide) hrow5 hW1 hg6
                  have c6 := hb6.cell
                  have f6 := hb6.frozen
                  have hr6 := k5.same (W' := w6.setCell ⟨w.heap.size + 2, 0, none⟩ (.slice A6 n6 c6')) ((Below.heap_setCell _ _ _ _ (by show w.heap.size ≠ w.heap.size + 2; omega)).trans ((hg6.block _ (Nat.lt_of_lt_of_le k5.s.lt hW1.size) (fun e => by have := (hrow5.lt _ e.symm).1; omega)).trans (hW1.block _ k5.s.lt))) ((Below.heap_setCell _ _ _ _ (by show w.heap.size + 1 ≠ w.heap.size + 2; omega)).trans ((hg6.block _ (Nat.lt_of_lt_of_le k5.o.lt hW1.size) (fun e => by have := (hrow5.lt _ e.symm).1; omega)).trans (hW1.block _ k5.o.lt)))
                  have hp6 := ((k6.below hW1 k6.lt).grown hg6 (own_ne hrow5 k6 (by decide)).symm).far (p := ⟨w.heap.size + 2, 0, none⟩) (bk_ne k6 (show Bk wr (w.heap.size + 2) 80 _ from hv5) (by decide)) (.slice A6 n6 c6')
                  have H6 := Lib.hid (And.intro hr6 (And.intro hp6 (Cb.app2 (M := w2.heap.size) (n1 := w.heap.size + 3) hv5 hrow5 hnx5 k8 k9 k10 (by decide) (by omega) (by omega) (by omega) hW1 hg6 hown6 hv6)))
                  clear hown6 hg6 hv6 hb6 hr6 hp6 hW1 k1 k2 k3 hv5 hrow5 hnx5 k8 k10 k5 k6 k7
                  refine hK _ _ ?_
                  clear hK K
                  refine wpAnyIn_ready (rs := [7]) (by kernel_rfl) (by simp) ?_
                  refine AllReadyIn.cons rfl (fun K hK => ?_) AllReadyIn.nil
                  go_simp
                  refine hK _ _ ?_
                  clear hK K
                  refine wpAnyIn_done (by kernel_rfl) ?_ _
                  gi_wp2_with fail
                  obtain ⟨hr6, hp6, q1, q2, q3, q4⟩ := H6.out
                  obtain ⟨k1, k2, k3, hv5, hrow5, hnx5, k8, _, k10, k5, k6, k7⟩ := HJ.out
                  exact ⟨⟨j + 1, T ++ [92, d], by omega, by go_num, k1.trans q1, k2.trans q2, fun k hk => (q3 k hk).trans (k3 k hk), by rw [bvals_app, List.length_append]; exact q4, hr6, hp6, by rw [k7, HD.out, qbs_snoc, List.append_assoc]⟩, by simp [intOf]; omega⟩
              · go_simp
                refine hK _ _ ?_
                clear hK K
                refine wpAnyIn_ready (rs := [1]) (by kernel_rfl) (by simp) ?_
                refine AllReadyIn.cons rfl (fun K hK => ?_) AllReadyIn.nil
                go_simp
                refine hK _ _ ?_
                clear hK K
                refine wpAnyIn_ready (rs := [2]) (by kernel_rfl) (by simp) ?_
                refine AllReadyIn.cons rfl (fun K hK => ?_) AllReadyIn.nil
                go_simp
                refine hK _ _ ?_
                clear hK K
                refine wpAnyIn_ready (rs := [4]) (by kernel_rfl) (by simp) ?_
                refine AllReadyIn.cons rfl (fun K hK => ?_) AllReadyIn.nil
                go_simp
                refine hK _ _ ?_
                clear hK K
                refine wpAnyIn_ready (rs := [5]) (by kernel_rfl) (by simp) ?_
                refine AllReadyIn.cons rfl (fun K hK => ?_) AllReadyIn.nil
                go_simp
                refine hK _ _ ?_
                clear hK K
                refine wpAnyIn_ready (rs := [6]) (by kernel_rfl) (by simp) ?_
                refine AllReadyIn.cons rfl (fun K hK => ?_) AllReadyIn.nil
                refine stepIn_append_rd rfl (.tmp 17) (.tmp 22) 80 rfl w2.heap.size 5 i0 _ 1 1 Try.underlying80 hi hz0 hz1 hz2 rfl (by decide) (.slice A5 T.length c5) T.length (bvals T) rfl H4.out.1 (.slice (some ⟨wr.heap.size, 0, none⟩) 2 2) 2 (wr.heap.size + 1) (bvals [92, d]) rfl H4.out.2 (one_bytes _) (by unfold maxLen; omega) (by omega) (by simp; omega) ?_
                intro v6 w6 hown6 hg6 hv6
                obtain ⟨A6, n6, c6', rfl⟩ := own_form' hown6
                obtain ⟨k1, k2, k3, hv5, hrow5, hnx5, k8, k9, k10, k5, k6, k7⟩ := HJ.out
                have hW1 : Below wr.heap.size wr (wr.drew.alloc (.cells (bvals [92, d]).toArray 5)) := Below.alloc (Below.drew (Below.refl _ wr)) (Nat.le_refl _) _
                have hb6 := box_grown hv5 (by decide) hrow5 hW1 hg6
                have c6 := hb6.cell
                have f6 := hb6.frozen
                have hr6 := k5.same (W' := w6.setCell ⟨w.heap.size + 2, 0, none⟩ (.slice A6 n6 c6')) ((Below.heap_setCell _ _ _ _ (by show w.heap.size ≠ w.heap.size + 2; omega)).trans ((hg6.block _ (Nat.lt_of_lt_of_le k5.s.lt hW1.size) (fun e => by have := (hrow5.lt _ e.symm).1; omega)).trans (hW1.block _ k5.s.lt))) ((Below.heap_setCell _ _ _ _ (by show w.heap.size + 1 ≠ w.heap.size + 2; omega)).trans ((hg6.block _ (Nat.lt_of_lt_of_le k5.o.lt hW1.size) (fun e => by have := (hrow5.lt _ e.symm).1; omega)).trans (hW1.block _ k5.o.lt)))
                have hp6 := ((k6.below hW1 k6.lt).grown hg6 (own_ne hrow5 k6 (by decide)).symm).far (p := ⟨w.heap.size + 2, 0, none⟩) (bk_ne k6 (show Bk wr (w.heap.size + 2) 80 _ from hv5) (by decide)) (.slice A6 n6 c6')
                have H6 := Lib.hid (And.intro hr6 (And.intro hp6 (Cb.app2 (M := w2.heap.size) (n1 := w.heap.size + 3) hv5 hrow5 hnx5 k8 k9 k10 (by decide) (by omega) (by omega) (by omega) hW1 hg6 hown6 hv6)))
                clear hown6 hg6 hv6 hb6 hr6 hp6 hW1 k1 k2 k3 hv5 hrow5 hnx5 k8 k10 k5 k6 k7
                refine hK _ _ ?_
                clear hK K
                refine wpAnyIn_ready (rs := [7]) (by kernel_rfl) (by simp) ?_
                refine AllReadyIn.cons rfl (fun K hK => ?_) AllReadyIn.nil
                go_simp
                refine hK _ _ ?_
                clear hK K
                refine wpAnyIn_done (by kernel_rfl) ?_ _
                gi_wp2_with fail
                obtain ⟨hr6, hp6, q1, q2, q3, q4⟩ := H6.out
                obtain ⟨k1, k2, k3, hv5, hrow5, hnx5, k8, _, k10, k5, k6, k7⟩ := HJ.out
                exact ⟨⟨j + 1, T ++ [92, d], by omega, by go_num, k1.trans q1, k2.trans q2, fun k hk => (q3 k hk).trans (k3 k hk), by rw [bvals_app, List.length_append]; exact q4, hr6, hp6, by rw [k7, HD.out, qbs_snoc, List.append_assoc]⟩, by simp [intOf]; omega⟩
            · go_simp
              refine hK _ _ ?_
              clear hK K
              refine wpAnyIn_ready (rs := [0, 2, 3]) (by kernel_rfl) (by simp) ?_
              refine AllReadyIn.cons rfl (fun K hK => ?_) (AllReadyIn.cons rfl (fun K hK => ?_) (AllReadyIn.cons rfl (fun K hK => ?_) AllReadyIn.nil))
              · go_simp
                refine hK _ _ ?_
                clear hK K
                refine wpAnyIn_ready (rs := [2, 3]) (by kernel_rfl) (by simp) ?_
                refine AllReadyIn.cons rfl (fun K hK => ?_) (AllReadyIn.cons rfl (fun K hK => ?_) AllReadyIn.nil)
                · go_simp
                  refine hK _ _ ?_
                  clear hK K
                  refine wpAnyIn_ready (rs := [3]) (by kernel_rfl) (by simp) ?_
                  refine AllReadyIn.cons rfl (fun K hK => ?_) AllReadyIn.nil
                  go_simp
                  refine hK _ _ ?_
                  clear hK K
                  refine wpAnyIn_ready (rs := [4]) (by kernel_rfl) (by simp) ?_
                  refine AllReadyIn.cons rfl (fun K hK => ?_) AllReadyIn.nil
                  go_simp
                  refine hK _ _ ?_
                  clear hK K
                  refine wpAnyIn_ready (rs := [5]) (by kernel_rfl) (by simp) ?_
                  refine AllReadyIn.cons rfl (fun K hK => ?_) AllReadyIn.nil
                  go_simp
                  refine hK _ _ ?_
                  clear hK K
                  refine wpAnyIn_ready (rs := [6]) (by kernel_rfl) (by simp) ?_
                  refine AllReadyIn.cons rfl (fun K hK => ?_) AllReadyIn.nil
                  refine stepIn_append_rd rfl (.tmp 17) (.tmp 22) 80 rfl w2.heap.size 5 i0 _ 1 1 Try.underlying80 hi hz0 hz1 hz2 rfl (by decide) (.slice A5 T.length c5) T.length (bvals T) rfl H4.out.1 (.slice (some ⟨wr.heap.size, 0, none⟩) 2 2) 2 (wr.heap.size + 1) (bvals [92, d]) rfl H4.out.2 (one_bytes _) (by unfold maxLen; omega) (by omega) (by simp; omega) ?_
                  intro v6 w6 hown6 hg6 hv6
                  obtain ⟨A6, n6, c6', rfl⟩ := own_form' hown6
                  obtain ⟨k1, k2, k3, hv5, hrow5, hnx5, k8, k9, k10, k5, k6, k7⟩ := HJ.out
                  have hW1 : Below wr.heap.size wr (wr.drew.alloc (.cells (bvals [92, d]).toArray 5)) := Below.alloc (Below.drew (Below.refl _ wr)) (Nat.le_refl _) _
                  have hb6 := box_grown hv5 (by decide) hrow5 hW1 hg6
                  have c6 := hb6.cell
                  have f6 := hb6.frozen
                  have hr6 := k5.same (W' := w6.setCell ⟨w.heap.size + 2, 0, none⟩ (.slice A6 n6 c6')) ((Below.heap_setCell _ _ _ _ (by show w.heap.size ≠ w.heap.size + 2; omega)).trans ((hg6.block _ (Nat.lt_of_lt_of_le k5.s.lt hW1.size) (fun e => by have := (hrow5.lt _ e.symm).1; omega)).trans (hW1.block _ k5.s.lt))) ((Below.heap_setCell _ _ _ _ (by show w.heap.size + 1 ≠ w.heap.size + 2; omega)).trans ((hg6.block _ (Nat.lt_of_lt_of_le k5.o.lt hW1.size) (fun e => by have := (hrow5.lt _ e.symm).1; omega)).trans (hW1.block _ k5.o.lt)))
                  have hp6 := ((k6.below hW1 k6.lt).grown hg6 (own_ne hrow5 k6 (by decide)).symm).far (p := ⟨w.heap.size + 2, 0, none⟩) (bk_ne k6 (show Bk wr (w.heap.size + 2) 80 _ from hv5) (by decide)) (.slice A6 n6 c6')
                  have H6 := Lib.hid (And.intro hr6 (And.intro hp6 (Cb.app2 (M := w2.heap.size) (n1 := w.heap.size + 3) hv5 hrow5 hnx5 k8 k9 k10 (by decide) (by omega) (by omega) (by omega) hW1 hg6 hown6 hv6)))
                  clear hown6 hg6 hv6 hb6 hr6 hp6 hW1 k1 k2 k3 hv5 hrow5 hnx5 k8 k10 k5 k6 k7
                  refine hK _ _ ?_
                  clear hK K
                  refine wpAnyIn_ready (rs := [7]) (by kernel_rfl) (by simp) ?_
                  refine AllReadyIn.cons rfl (fun K hK => ?_) AllReadyIn.nil
                  go_simp
                  refine hK _ _ ?_
                  clear hK K
                  refine wpAnyIn_done (by kernel_rfl) ?_ _
                  gi_wp2_with fail
                  obtain ⟨hr6, hp6, q1, q2, q3, q4⟩ := H6.out
                  obtain ⟨k1, k2, k3, hv5, hrow5, hnx5, k8, _, k10, k5, k6, k7⟩ := HJ.out
                  exact ⟨⟨j + 1, T ++ [92, d], by omega, by go_num, k1.trans q1, k2.trans q2, fun k hk => (q3 k hk).trans (k3 k hk), by rw [bvals_app, List.length_append]; exact q4, hr6, hp6, by rw [k7, HD.out, qbs_snoc, List.append_assoc]⟩, by simp [intOf]; omega⟩
                · go_simp
                  refine hK _ _ ?_
                  clear hK K
                  refine wpAnyIn_ready (rs := [2]) (by kernel_rfl) (by simp) ?_
                  refine AllReadyIn.cons rfl (fun K hK => ?_) AllReadyIn.nil
                  go_simp
                  refine hK _ _ ?_
                  clear hK K
                  refine wpAnyIn_ready (rs := [4]) (by kernel_rfl) (by simp) ?_
                  refine AllReadyIn.cons rfl (fun K hK => ?_) AllReadyIn.nil
                  go_simp
                  refine hK _ _ ?_
                  clear hK K
                  refine wpAnyIn_ready (rs := [5]) (by kernel_rfl) (by simp) ?_
                  refine AllReadyIn.cons rfl (fun K hK => ?_) AllReadyIn.nil
                  go_simp
                  refine hK _ _ ?_
                  clear hK K
                  refine wpAnyIn_ready (rs := [6]) (by kernel_rfl) (by simp) ?_
                  refine AllReadyIn.cons rfl (fun K hK => ?_) AllReadyIn.nil
                  refine stepIn_append_rd rfl (.tmp 17) (.tmp 22) 80 rfl w2.heap.size 5 i0 _ 1 1 Try.underlying80 hi hz0 hz1 hz2 rfl (by decide) (.slice A5 T.length c5) T.length (bvals T) rfl H4.out.1 (.slice (some ⟨wr.heap.size, 0, none⟩) 2 2) 2 (wr.heap.size + 1) (bvals [92, d]) rfl H4.out.2 (one_bytes _) (by unfold maxLen; omega) (by omega) (by simp; omega) ?_
                  intro v6 w6 hown6 hg6 hv6
                  obtain ⟨A6, n6, c6', rfl⟩ := own_form' hown6
                  obtain ⟨k1, k2, k3, hv5, hrow5, hnx5, k8, k9, k10, k5, k6, k7⟩ := HJ.out
                  have hW1 : Below wr.heap.size wr (wr.drew.alloc (.cells (bvals [92, d]).toArray 5)) := Below.alloc (Below.drew (Below.refl _ wr)) (Nat.le_refl _) _
                  have hb6 := box_grown hv5 (by decide) hrow5 hW1 hg6
                  have c6 := hb6.cell
                  have f6 := hb6.frozen
                  have hr6 := k5.same (W' := w6.setCell ⟨w.heap.size + 2, 0, none⟩ (.slice A6 n6 c6')) ((Below.heap_setCell _ _ _ _ (by show w.heap.size ≠ w.heap.size + 2; omega)).trans ((hg6.block _ (Nat.lt_of_lt_of_le k5.s.lt hW1.size) (fun e => by have := (hrow5.lt _ e.symm).1; omega)).trans (hW1.block _ k5.s.lt))) ((Below.heap_setCell _ _ _ _ (by show w.heap.size + 1 ≠ w.heap.size + 2; omega)).trans ((hg6.block _ (Nat.lt_of_lt_of_le k5.o.lt hW1.size) (fun e => by have := (hrow5.lt _ e.symm).1; omega)).trans (hW1.block _ k5.o.lt)))
                  have hp6 := ((k6.below hW1 k6.lt).grown hg6 (own_ne hrow5 k6 (by decide)).symm).far (p := ⟨w.heap.size + 2, 0, none⟩) (bk_ne k6 (show Bk wr (w.heap.size + 2) 80 _ from hv5) (by decide)) (.slice A6 n6 c6')
                  have H6 := Lib.hid (And.intro hr6 (And.intro hp6 (Cb.app2 (M := w2.heap.size) (n1 := w.heap.size + 3) hv5 hrow5 hnx5 k8 k9 k10 (by decide) (by omega) (by omega) (by omega) hW1 hg6 hown6 hv6)))
                  clear hown6 hg6 hv6 hb6 hr6 hp6 hW1 k1 k2 k3 hv5 hrow5 hnx5 k8 k10 k5 k6 k7
                  refine hK _ _ ?_
                  clear hK K
                  refine wpAnyIn_ready (rs := [7]) (by kernel_rfl) (by simp) ?_
                  refine AllReadyIn.cons rfl (fun K hK => ?_) AllReadyIn.nil
                  go_simp
                  refine hK _ _ ?_
                  clear hK K
                  refine wpAnyIn_done (by kernel_rfl) ?_ _
                  gi_wp2_with fail
                  obtain ⟨hr6, hp6, q1, q2, q3, q4⟩ := H6.out
                  obtain ⟨k1, k2, k3, hv5, hrow5, hnx5, k8, _, k10, k5, k6, k7⟩ := HJ.out
                  exact ⟨⟨j + 1, T ++ [92, d], by omega, by go_num, k1.trans q1, k2.trans q2, fun k hk => (q3 k hk).trans (k3 k hk), by rw [bvals_app, List.length_append]; exact q4, hr6, hp6, by rw [k7, HD.out, qbs_snoc, List.append_assoc]⟩, by simp [intOf]; omega⟩
              · go_simp
                refine hK _ _ ?_
                clear hK K
                refine wpAnyIn_ready (rs := [0, 3]) (by kernel_rfl) (by simp) ?_
                refine AllReadyIn.cons rfl (fun K hK => ?_) (AllReadyIn.cons rfl (fun K hK => ?_) AllReadyIn.nil)
                · go_simp
                  refine hK _ _ ?_
                  clear hK K
                  refine wpAnyIn_ready (rs := [3]) (by kernel_rfl) (by simp) ?_
                  refine AllReadyIn.cons rfl (fun K hK => ?_) AllReadyIn.nil
                  go_simp
                  refine hK _ _ ?_
                  clear hK K
                  refine wpAnyIn_ready (rs := [4]) (by kernel_rfl) (by simp) ?_
                  refine AllReadyIn.cons rfl (fun K hK => ?_) AllReadyIn.nil
                  go_simp
                  refine hK _ _ ?_
                  clear hK K
                  refine wpAnyIn_ready (rs := [5]) (by kernel_rfl) (by simp) ?_
                  refine AllReadyIn.cons rfl (fun K hK => ?_) AllReadyIn.nil
                  go_simp
                  refine hK _ _ ?_
                  clear hK K
                  refine wpAnyIn_ready (rs := [6]) (by kernel_rfl) (by simp) ?_
                  refine AllReadyIn.cons rfl (fun K hK => ?_) AllReadyIn.nil
                  refine stepIn_append_rd rfl (.tmp 17) (.tmp 22) 80 rfl w2.heap.size 5 i0 _ 1 1 Try.underlying80 hi hz0 hz1 hz2 rfl (by decide) (.slice A5 T.length c5) T.length (bvals T) rfl H4.out.1 (.slice (some ⟨wr.heap.size, 0, none⟩) 2 2) 2 (wr.heap.size + 1) (bvals [92, d]) rfl H4.out.2 (one_bytes _) (by unfold maxLen; omega) (by omega) (by simp; omega) ?_
                  intro v6 w6 hown6 hg6 hv6
                  obtain ⟨A6, n6, c6', rfl⟩ := own_form' hown6
                  obtain ⟨k1, k2, k3, hv5, hrow5, hnx5, k8, k9, k10, k5, k6, k7⟩ := HJ.out
                  have hW1 : Below wr.heap.size wr (wr.drew.alloc (.cells (bvals [92, d]).toArray 5)) := Below.alloc (Below.drew (Below.refl _ wr)) (Nat.le_refl _) _
                  have hb6 := box_grown hv5 (by decide) hrow5 hW1 hg6
                  have c6 := hb6.cell
                  have f6 := hb6.frozen
                  have hr6 := k5.same (W' := w6.setCell ⟨w.heap.size + 2, 0, none⟩ (.slice A6 n6 c6')) ((Below.heap_setCell _ _ _ _ (by show w.heap.size ≠ w.heap.size + 2; omega)).trans ((hg6.block _ (Nat.lt_of_lt_of_le k5.s.lt hW1.size) (fun e => by have := (hrow5.lt _ e.symm).1; omega)).trans (hW1.block _ k5.s.lt))) ((Below.heap_setCell _ _ _ _ (by show w.heap.size + 1 ≠ w.heap.size + 2; omega)).trans ((hg6.block _ (Nat.lt_of_lt_of_le k5.o.lt hW1.size) (fun e => by have := (hrow5.lt _ e.symm).1; omega)).trans (hW1.block _ k5.o.lt)))
                  have hp6 := ((k6.below hW1 k6.lt).grown hg6 (own_ne hrow5 k6 (by decide)).symm).far (p := ⟨w.heap.size + 2, 0, none⟩) (bk_ne k6 (show Bk wr (w.heap.size + 2) 80 _ from hv5) (by decide)) (.slice A6 n6 c6')
                  have H6 := Lib.hid (And.intro hr6 (And.intro hp6 (Cb.app2 (M := w2.heap.size) (n1 := w.heap.size + 3) hv5 hrow5 hnx5 k8 k9 k10 (by decide) (by omega) (by omega) (by omega) hW1 hg6 hown6 hv6)))
                  clear hown6 hg6 hv6 hb6 hr6 hp6 hW1 k1 k2 k3 hv5 hrow5 hnx5 k8 k10 k5 k6 k7
                  refine hK _ _ ?_
                  clear hK K
                  refine wpAnyIn_ready (rs := [7]) (by kernel_rfl) (by simp) ?_
                  refine AllReadyIn.cons rfl (fun K hK => ?_) AllReadyIn.nil
                  go_simp
                  refine hK _ _ ?_
                  clear hK K
                  refine wpAnyIn_done (by kernel_rfl) ?_ _
                  gi_wp2_with fail
                  obtain ⟨hr6, hp6, q1, q2, q3, q4⟩ := H6.out
                  obtain ⟨k1, k2, k3, hv5, hrow5, hnx5, k8, _, k10, k5, k6, k7⟩ := HJ.out
                  exact ⟨⟨j + 1, T ++ [92, d], by omega, by go_num, k1.trans q1, k2.trans q2, fun k hk => (q3 k hk).trans (k3 k hk), by rw [bvals_app, List.length_append]; exact q4, hr6, hp6, by rw [k7, HD.out, qbs_snoc, List.append_assoc]⟩, by simp [intOf]; omega⟩
                · go_simp
                  refine hK _ _ ?_
                  clear hK K
                  refine wpAnyIn_ready (rs := [0, 4]) (by kernel_rfl) (by simp) ?_
                  refine AllReadyIn.cons rfl (fun K hK => ?_) (AllReadyIn.cons rfl (fun K hK => ?_) AllReadyIn.nil)
                  · go_simp
                    refine hK _ _ ?_
                    clear hK K
                    refine wpAnyIn_ready (rs := [4]) (by kernel_rfl) (by simp) ?_
                    refine AllReadyIn.cons rfl (fun K hK => ?_) AllReadyIn.nil
                    go_simp
                    refine hK _ _ ?_
                    clear hK K
                    refine wpAnyIn_ready (rs := [5]) (by kernel_rfl) (by simp) ?_
                    refine AllReadyIn.cons rfl (fun K hK => ?_) AllReadyIn.nil
                    go_simp
                    refine hK _ _ ?_
                    clear hK K
                    refine wpAnyIn_ready (rs := [6]) (by kernel_rfl) (by simp) ?_
                    refine AllReadyIn.cons rfl (fun K hK => ?_) AllReadyIn.nil
                    refine stepIn_append_rd rfl (.tmp 17) (.tmp 22) 80 rfl w2.heap.size 5 i0 _ 1 1 Try.underlying80 hi hz0 hz1 hz2 rfl (by decide) (.slice A5 T.length c5) T.length (bvals T) rfl H4.out.1 (.slice (some ⟨wr.heap.size, 0, none⟩) 2 2) 2 (wr.heap.size + 1) (bvals [92, d]) rfl H4.out.2 (one_bytes _) (by unfold maxLen; omega) (by omega) (by simp; omega) ?_
                    intro v6 w6 hown6 hg6 hv6
                    obtain ⟨A6, n6, c6', rfl⟩ := own_form' hown6
                    obtain ⟨k1, k2, k3, hv5, hrow5, hnx5, k8, k9, k10, k5, k6, k7⟩ := HJ.out
                    have hW1 : Below wr.heap.size wr (wr.drew.alloc (.cells (bvals [92, d]).toArray 5)) := Below.alloc (Below.drew (Below.refl _ wr)) (Nat.le_refl _) _
                    have hb6 := box_grown hv5 (by decide) hrow5 hW1 hg6
                    have c6 := hb6.cell
                    have f6 := hb6.frozen
                    have hr6 := k5.same (W' := w6.setCell ⟨w.heap.size + 2, 0, none⟩ (.slice A6 n6 c6')) ((Below.heap_setCell _ _ _ _ (by show w.heap.size ≠ w.heap.size + 2; omega)).trans ((hg6.block _ (Nat.lt_of_lt_of_le k5.s.lt hW1.size) (fun e => by have := (hrow5.lt _ e.symm).1; omega)).trans (hW1.block _ k5.s.lt))) ((Below.heap_setCell _ _ _ _ (by show w.heap.size + 1 ≠ w.heap.size + 2; omega)).trans ((hg6.block _ (Nat.lt_of_lt_of_le k5.o.lt hW1.size) (fun e => by have := (hrow5.lt _ e.symm).1; omega)).trans (hW1.block _ k5.o.lt)))
                    have hp6 := ((k6.below hW1 k6.lt).grown hg6 (own_ne hrow5 k6 (by decide)).symm).far (p := ⟨w.heap.size + 2, 0, none⟩) (bk_ne k6 (show Bk wr (w.heap.size + 2) 80 _ from hv5) (by decide)) (.slice A6 n6 c6')
                    have H6 := Lib.hid (And.intro hr6 (And.intro hp6 (Cb.app2 (M := w2.heap.size) (n1 := w.heap.size + 3) hv5 hrow5 hnx5 k8 k9 k10 (by decide) (by omega) (by omega) (by omega) hW1 hg6 hown6 hv6)))
                    clear hown6 hg6 hv6 hb6 hr6 hp6 hW1 k1 k2 k3 hv5 hrow5 hnx5 k8 k10 k5 k6 k7
                    refine hK _ _ ?_
                    clear hK K
                    refine wpAnyIn_ready (rs := [7]) (by kernel_rfl) (by simp) ?_
                    refine AllReadyIn.cons rfl (fun K hK => ?_) AllReadyIn.nil
                    go_simp
                    refine hK _ _ ?_
                    clear hK K
                    refine wpAnyIn_done (by kernel_rfl) ?_ _
                    gi_wp2_with fail
                    obtain ⟨hr6, hp6, q1, q2, q3, q4⟩ := H6.out
                    obtain ⟨k1, k2, k3, hv5, hrow5, hnx5, k8, _, k10, k5, k6, k7⟩ := HJ.out
                    exact ⟨⟨j + 1, T ++ [92, d], by omega, by go_num, k1.trans q1, k2.trans q2, fun k hk => (q3 k hk).trans (k3 k hk), by rw [bvals_app, List.length_append]; exact q4, hr6, hp6, by rw [k7, HD.out, qbs_snoc, List.append_assoc]⟩, by simp [intOf]; omega⟩
                  · go_simp
                    refine hK _ _ ?_
                    clear hK K
                    refine wpAnyIn_ready (rs := [0, 5]) (by kernel_rfl) (by simp) ?_
                    refine AllReadyIn.cons rfl (fun K hK => ?_) (AllReadyIn.cons rfl (fun K hK => ?_) AllReadyIn.nil)
                    · go_simp
                      refine hK _ _ ?_
                      clear hK K
                      refine wpAnyIn_ready (rs := [5]) (by kernel_rfl) (by simp) ?_
                      refine AllReadyIn.cons rfl (fun K hK => ?_) AllReadyIn.nil
                      go_simp
                      refine hK _ _ ?_
                      clear hK K
                      refine wpAnyIn_ready (rs := [6]) (by kernel_rfl) (by simp) ?_
                      refine AllReadyIn.cons rfl (fun K hK => ?_) AllReadyIn.nil
                      refine stepIn_append_rd rfl (.tmp 17) (.tmp 22) 80 rfl w2.heap.size 5 i0 _ 1 1 Try.underlying80 hi hz0 hz1 hz2 rfl (by decide) (.slice A5 T.length c5) T.length (bvals T) rfl H4.out.1 (.slice (some ⟨wr.heap.size, 0, none⟩) 2 2) 2 (wr.heap.size + 1) (bvals [92, d]) rfl H4.out.2 (one_bytes _) (by unfold maxLen; omega) (by omega) (by simp; omega) ?_
                      intro v6 w6 hown6 hg6 hv6
                      obtain ⟨A6, n6, c6', rfl⟩ := own_form' hown6
                      obtain ⟨k1, k2, k3, hv5, hrow5, hnx5, k8, k9, k10, k5, k6, k7⟩ := HJ.out
                      have hW1 : Below wr.heap.size wr (wr.drew.alloc (.cells (bvals [92, d]).toArray 5)) := Below.alloc (Below.drew (Below.refl _ wr)) (Nat.le_refl _) _
                      have hb6 := box_grown hv5 (by decide) hrow5 hW1 hg6
                      have c6 := hb6.cell
                      have f6 := hb6.frozen
                      have hr6 := k5.same (W' := w6.setCell ⟨w.heap.size + 2, 0, none⟩ (.slice A6 n6 c6')) ((Below.heap_setCell _ _ _ _ (by show w.heap.size ≠ w.heap.size + 2; omega)).trans ((hg6.block _ (Nat.lt_of_lt_of_le k5.s.lt hW1.size) (fun e => by have := (hrow5.lt _ e.symm).1; omega)).trans (hW1.block _ k5.s.lt))) ((Below.heap_setCell _ _ _ _ (by show w.heap.size + 1 ≠ w.heap.size + 2; omega)).trans ((hg6.block _ (Nat.lt_of_lt_of_le k5.o.lt hW1.size) (fun e => by have := (hrow5.lt _ e.symm).1; omega)).trans (hW1.block _ k5.o.lt)))
                      have hp6 := ((k6.below hW1 k6.lt).grown hg6 (own_ne hrow5 k6 (by decide)).symm).far (p := ⟨w.heap.size + 2, 0, none⟩) (bk_ne k6 (show Bk wr (w.heap.size + 2) 80 _ from hv5) (by decide)) (.slice A6 n6 c6')
                      have H6 := Lib.hid (And.intro hr6 (And.intro hp6 (Cb.app2 (M := w2.heap.size) (n1 := w.heap.size + 3) hv5 hrow5 hnx5 k8 k9 k10 (by decide) (by omega) (by omega) (by omega) hW1 hg6 hown6 hv6)))
                      clear hown6 hg6 hv6 hb6 hr6 hp6 hW1 k1 k2 k3 hv5 hrow5 hnx5 k8 k10 k5 k6 k7
                      refine hK _ _ ?_
                      clear hK K
                      refine wpAnyIn_ready (rs := [7]) (by kernel_rfl) (by simp) ?_
                      refine AllReadyIn.cons rfl (fun K hK => ?_) AllReadyIn.nil
                      go_simp
                      refine hK _ _ ?_
                      clear hK K
                      refine wpAnyIn_done (by kernel_rfl) ?_ _
                      gi_wp2_with fail
                      obtain ⟨hr6, hp6, q1, q2, q3, q4⟩ := H6.out
                      obtain ⟨k1, k2, k3, hv5, hrow5, hnx5, k8, _, k10, k5, k6, k7⟩ := HJ.out
                      exact ⟨⟨j + 1, T ++ [92, d], by omega, by go_num, k1.trans q1, k2.trans q2, fun k hk => (q3 k hk).trans (k3 k hk), by rw [bvals_app, List.length_append]; exact q4, hr6, hp6, by rw [k7, HD.out, qbs_snoc, List.append_assoc]⟩, by simp [intOf]; omega⟩
                    · go_simp
                      refine hK _ _ ?_
                      clear hK K
                      refine wpAnyIn_ready (rs := [0]) (by kernel_rfl) (by simp) ?_
                      refine AllReadyIn.cons rfl (fun K hK => ?_) AllReadyIn.nil
                      go_simp
                      refine hK _ _ ?_
                      clear hK K
                      refine wpAnyIn_ready (rs := [6]) (by kernel_rfl) (by simp) ?_
                      refine AllReadyIn.cons rfl (fun K hK => ?_) AllReadyIn.nil
                      refine stepIn_append_rd rfl (.tmp 17) (.tmp 22) 80 rfl w2.heap.size 5 i0 _ 1 1 Try.underlying80 hi hz0 hz1 hz2 rfl (by decide) (.slice A5 T.length c5) T.length (bvals T) rfl H4.out.1 (.slice (some ⟨wr.heap.size, 0, none⟩) 2 2) 2 (wr.heap.size + 1) (bvals [92, d]) rfl H4.out.2 (one_bytes _) (by unfold maxLen; omega) (by omega) (by simp; omega) ?_
                      intro v6 w6 hown6 hg6 hv6
                      obtain ⟨A6, n6, c6', rfl⟩ := own_form' hown6
                      obtain ⟨k1, k2, k3, hv5, hrow5, hnx5, k8, k9, k10, k5, k6, k7⟩ := HJ.out
                      have hW1 : Below wr.heap.size wr (wr.drew.alloc (.cells (bvals [92, d]).toArray 5)) := Below.alloc (Below.drew (Below.refl _ wr)) (Nat.le_refl _) _
                      have hb6 := box_grown hv5 (by decide) hrow5 hW1 hg6
                      have c6 := hb6.cell
                      have f6 := hb6.frozen
                      have hr6 := k5.same (W' := w6.setCell ⟨w.heap.size + 2, 0, none⟩ (.slice A6 n6 c6')) ((Below.heap_setCell _ _ _ _ (by show w.heap.size ≠ w.heap.size + 2; omega)).trans ((hg6.block _ (Nat.lt_of_lt_of_le k5.s.lt hW1.size) (fun e => by have := (hrow5.lt _ e.symm).1; omega)).trans (hW1.block _ k5.s.lt))) ((Below.heap_setCell _ _ _ _ (by show w.heap.size + 1 ≠ w.heap.size + 2; omega)).trans ((hg6.block _ (Nat.lt_of_lt_of_le k5.o.lt hW1.size) (fun e => by have := (hrow5.lt _ e.symm).1; omega)).trans (hW1.block _ k5.o.lt)))
                      have hp6 := ((k6.below hW1 k6.lt).grown hg6 (own_ne hrow5 k6 (by decide)).symm).far (p := ⟨w.heap.size + 2, 0, none⟩) (bk_ne k6 (show Bk wr (w.heap.size + 2) 80 _ from hv5) (by decide)) (.slice A6 n6 c6')
                      have H6 := Lib.hid (And.intro hr6 (And.intro hp6 (Cb.app2 (M := w2.heap.size) (n1 := w.heap.size + 3) hv5 hrow5 hnx5 k8 k9 k10 (by decide) (by omega) (by omega) (by omega) hW1 hg6 hown6 hv6)))
                      clear hown6 hg6 hv6 hb6 hr6 hp6 hW1 k1 k2 k3 hv5 hrow5 hnx5 k8 k10 k5 k6 k7
                      refine hK _ _ ?_
                      clear hK K
                      refine wpAnyIn_ready (rs := [7]) (by kernel_rfl) (by simp) ?_
                      refine AllReadyIn.cons rfl (fun K hK => ?_) AllReadyIn.nil
                      go_simp
                      refine hK _ _ ?_
                      clear hK K
                      refine wpAnyIn_done (by kernel_rfl) ?_ _
                      gi_wp2_with fail
                      obtain ⟨hr6, hp6, q1, q2, q3, q4⟩ := H6.out
                      obtain ⟨k1, k2, k3, hv5, hrow5, hnx5, k8, _, k10, k5, k6, k7⟩ := HJ.out
                      exact ⟨⟨j + 1, T ++ [92, d], by omega, by go_num, k1.trans q1, k2.trans q2, fun k hk => (q3 k hk).trans (k3 k hk), by rw [bvals_app, List.length_append]; exact q4, hr6, hp6, by rw [k7, HD.out, qbs_snoc, List.append_assoc]⟩, by simp [intOf]; omega⟩
              · go_simp
                refine hK _ _ ?_
                clear hK K
                refine wpAnyIn_ready (rs := [0, 2]) (by kernel_rfl) (by simp) ?_
                refine AllReadyIn.cons rfl (fun K hK => ?_) (AllReadyIn.cons rfl (fun K hK => ?_) AllReadyIn.nil)
                · go_simp
                  refine hK _ _ ?_
                  clear hK K
                  refine wpAnyIn_ready (rs := [2]) (by kernel_rfl) (by simp) ?_
                  refine AllReadyIn.cons rfl (fun K hK => ?_) AllReadyIn.nil
                  go_simp
                  refine hK _ _ ?_
                  clear hK K
                  refine wpAnyIn_ready (rs := [4]) (by kernel_rfl) (by simp) ?_
                  refine AllReadyIn.cons rfl (fun K hK => ?_) AllReadyIn.nil
                  go_simp
                  refine hK _ _ ?_
                  clear hK K
                  refine wpAnyIn_ready (rs := [5]) (by kernel_rfl) (by simp) ?_
                  refine AllReadyIn.cons rfl (fun K hK => ?_) AllReadyIn.nil
                  go_simp
                  refine hK _ _ ?_
                  clear hK K
                  refine wpAnyIn_ready (rs := [6]) (by kernel_rfl) (by simp) ?_
                  refine AllReadyIn.cons rfl (fun K hK => ?_) AllReadyIn.nil
                  refine stepIn_append_rd rfl (.tmp 17) (.tmp 22) 80 rfl w2.heap.size 5 i0 _ 1 1 Try.underlying80 hi hz0 hz1 hz2 rfl (by decide) (.slice A5 T.length c5) T.length (bvals T) rfl H4.out.1 (.slice (some ⟨wr.heap.size, 0, none⟩) 2 2) 2 (wr.heap.size + 1) (bvals [92, d]) rfl H4.out.2 (one_bytes _) (by unfold maxLen; omega) (by omega) (by simp; omega) ?_
                  intro v6 w6 hown6 hg6 hv6
                  obtain ⟨A6, n6, c6', rfl⟩ := own_form' hown6
                  obtain ⟨k1, k2, k3, hv5, hrow5, hnx5, k8, k9, k10, k5, k6, k7⟩ := HJ.out
                  have hW1 : Below wr.heap.size wr (wr.drew.alloc (.cells (bvals [92, d]).toArray 5)) := Below.alloc (Below.drew (Below.refl _ wr)) (Nat.le_refl _) _
                  have hb6 := box_grown hv5 (by decide) hrow5 hW1 hg6
                  have c6 := hb6.cell
                  have f6 := hb6.frozen
                  have hr6 := k5.same (W' := w6.setCell ⟨w.heap.size + 2, 0, none⟩ (.slice A6 n6 c6')) ((Below.heap_setCell _ _ _ _ (by show w.heap.size ≠ w.heap.size + 2; omega)).trans ((hg6.block _ (Nat.lt_of_lt_of_le k5.s.lt hW1.size) (fun e => by have := (hrow5.lt _ e.symm).1; omega)).trans (hW1.block _ k5.s.lt))) ((Below.heap_setCell _ _ _ _ (by show w.heap.size + 1 ≠ w.heap.size + 2; omega)).trans ((hg6.block _ (Nat.lt_of_lt_of_le k5.o.lt hW1.size) (fun e => by have := (hrow5.lt _ e.symm).1; omega)).trans (hW1.block _ k5.o.lt)))
                  have hp6 := ((k6.below hW1 k6.lt).grown hg6 (own_ne hrow5 k6 (by decide)).symm).far (p := ⟨w.heap.size + 2, 0, none⟩) (bk_ne k6 (show Bk wr (w.heap.size + 2) 80 _ from hv5) (by decide)) (.slice A6 n6 c6')
                  have H6 := Lib.hid (And.intro hr6 (And.intro hp6 (Cb.app2 (M := w2.heap.size) (n1 := w.heap.size + 3) hv5 hrow5 hnx5 k8 k9 k10 (by decide) (by omega) (by omega) (by omega) hW1 hg6 hown6 hv6)))
                  clear hown6 hg6 hv6 hb6 hr6 hp6 hW1 k1 k2 k3 hv5 hrow5 hnx5 k8 k10 k5 k6 k7
                  refine hK _ _ ?_
                  clear hK K
                  refine wpAnyIn_ready (rs := [7]) (by kernel_rfl) (by simp) ?_
                  refine AllReadyIn.cons rfl (fun K hK => ?_) AllReadyIn.nil
                  go_simp
                  refine hK _ _ ?_
                  clear hK K
                  refine wpAnyIn_done (by kernel_rfl) ?_ _
                  gi_wp2_with fail
                  obtain ⟨hr6, hp6, q1, q2, q3, q4⟩ := H6.out
                  obtain ⟨k1, k2, k3, hv5, hrow5, hnx5, k8, _, k10, k5, k6, k7⟩ := HJ.out
                  exact ⟨⟨j + 1, T ++ [92, d], by omega, by go_num, k1.trans q1, k2.trans q2, fun k hk => (q3 k hk).trans (k3 k hk), by rw [bvals_app, List.length_append]; exact q4, hr6, hp6, by rw [k7, HD.out, qbs_snoc, List.append_assoc]⟩, by simp [intOf]; omega⟩
                · go_simp
                  refine hK _ _ ?_
                  clear hK K
                  refine wpAnyIn_ready (rs := [0, 4]) (by kernel_rfl) (by simp) ?_
                  refine AllReadyIn.cons rfl (fun K hK => ?_) (AllReadyIn.cons rfl (fun K hK => ?_) AllReadyIn.nil)
                  · go_simp
                    refine hK _ _ ?_
                    clear hK K
                    refine wpAnyIn_ready (rs := [4]) (by kernel_rfl) (by simp) ?_
                    refine AllReadyIn.cons rfl (fun K hK => ?_) AllReadyIn.nil
                    go_simp
                    refine hK _ _ ?_
                    clear hK K
                    refine wpAnyIn_ready (rs := [5]) (by kernel_rfl) (by simp) ?_
                    refine AllReadyIn.cons rfl (fun K hK => ?_) AllReadyIn.nil
                    go_simp
                    refine hK _ _ ?_
                    clear hK K
                    refine wpAnyIn_ready (rs := [6]) (by kernel_rfl) (by simp) ?_
                    refine AllReadyIn.cons rfl (fun K hK => ?_) AllReadyIn.nil
                    refine stepIn_append_rd rfl (.tmp 17) (.tmp 22) 80 rfl w2.heap.size 5 i0 _ 1 1 Try.underlying80 hi hz0 hz1 hz2 rfl (by decide) (.slice A5 T.length c5) T.length (bvals T) rfl H4.out.1 (.slice (some ⟨wr.heap.size, 0, none⟩) 2 2) 2 (wr.heap.size + 1) (bvals [92, d]) rfl H4.out.2 (one_bytes _) (by unfold maxLen; omega) (by omega) (by simp; omega) ?_
                    intro v6 w6 hown6 hg6 hv6
                    obtain ⟨A6, n6, c6', rfl⟩ := own_form' hown6
                    obtain ⟨k1, k2, k3, hv5, hrow5, hnx5, k8, k9, k10, k5, k6, k7⟩ := HJ.out
                    have hW1 : Below wr.heap.size wr (wr.drew.alloc (.cells (bvals [92, d]).toArray 5)) := Below.alloc (Below.drew (Below.refl _ wr)) (Nat.le_refl _) _
                    have hb6 := box_grown hv5 (by decide) hrow5 hW1 hg6
                    have c6 := hb6.cell
                    have f6 := hb6.frozen
                    have hr6 := k5.same (W' := w6.setCell ⟨w.heap.size + 2, 0, none⟩ (.slice A6 n6 c6')) ((Below.heap_setCell _ _ _ _ (by show w.heap.size ≠ w.heap.size + 2; omega)).trans ((hg6.block _ (Nat.lt_of_lt_of_le k5.s.lt hW1.size) (fun e => by have := (hrow5.lt _ e.symm).1; omega)).trans (hW1.block _ k5.s.lt))) ((Below.heap_setCell _ _ _ _ (by show w.heap.size + 1 ≠ w.heap.size + 2; omega)).trans ((hg6.block _ (Nat.lt_of_lt_of_le k5.o.lt hW1.size) (fun e => by have := (hrow5.lt _ e.symm).1; omega)).trans (hW1.block _ k5.o.lt)))
                    have hp6 := ((k6.below hW1 k6.lt).grown hg6 (own_ne hrow5 k6 (by decide)).symm).far (p := ⟨w.heap.size + 2, 0, none⟩) (bk_ne k6 (show Bk wr (w.heap.size + 2) 80 _ from hv5) (by decide)) (.slice A6 n6 c6')
                    have H6 := Lib.hid (And.intro hr6 (And.intro hp6 (Cb.app2 (M := w2.heap.size) (n1 := w.heap.size + 3) hv5 hrow5 hnx5 k8 k9 k10 (by decide) (by omega) (by omega) (by omega) hW1 hg6 hown6 hv6)))
                    clear hown6 hg6 hv6 hb6 hr6 hp6 hW1 k1 k2 k3 hv5 hrow5 hnx5 k8 k10 k5 k6 k7
                    refine hK _ _ ?_
                    clear hK K
                    refine wpAnyIn_ready (rs := [7]) (by kernel_rfl) (by simp) ?_
                    refine AllReadyIn.cons rfl (fun K hK => ?_) AllReadyIn.nil
                    go_simp
                    refine hK _ _ ?_
                    clear hK K
                    refine wpAnyIn_done (by kernel_rfl) ?_ _
                    gi_wp2_with fail
                    obtain ⟨hr6, hp6, q1, q2, q3, q4⟩ := H6.out
                    obtain ⟨k1, k2, k3, hv5, hrow5, hnx5, k8, _, k10, k5, k6, k7⟩ := HJ.out
                    exact ⟨⟨j + 1, T ++ [92, d], by omega, by go_num, k1.trans q1, k2.trans q2, fun k hk => (q3 k hk).trans (k3 k hk), by rw [bvals_app, List.length_append]; exact q4, hr6, hp6, by rw [k7, HD.out, qbs_snoc, List.append_assoc]⟩, by simp [intOf]; omega⟩
                  · go_simp
                    refine hK _ _ ?_
                    clear hK K
                    refine wpAnyIn_ready (rs := [0, 5]) (by kernel_rfl) (by simp) ?_
                    refine AllReadyIn.cons rfl (fun K hK => ?_) (AllReadyIn.cons rfl (fun K hK => ?_) AllReadyIn.nil)
                    · go_simp
                      refine hK _ _ ?_
                      clear hK K
                      refine wpAnyIn_ready (rs := [5]) (by kernel_rfl) (by simp) ?_
                      refine AllReadyIn.cons rfl (fun K hK => ?_) AllReadyIn.nil
                      go_simp
                      refine hK _ _ ?_
                      clear hK K
                      refine wpAnyIn_ready (rs := [6]) (by kernel_rfl) (by simp) ?_
                      refine AllReadyIn.cons rfl (fun K hK => ?_) AllReadyIn.nil
                      refine stepIn_append_rd rfl (.tmp 17) (.tmp 22) 80 rfl w2.heap.size 5 i0 _ 1 1 Try.underlying80 hi hz0 hz1 hz2 rfl (by decide) (.slice A5 T.length c5) T.length (bvals T) rfl H4.out.1 (.slice (some ⟨wr.heap.size, 0, none⟩) 2 2) 2 (wr.heap.size + 1) (bvals [92, d]) rfl H4.out.2 (one_bytes _) (by unfold maxLen; omega) (by omega) (by simp; omega) ?_
                      intro v6 w6 hown6 hg6 hv6
                      obtain ⟨A6, n6, c6', rfl⟩ := own_form' hown6
                      obtain ⟨k1, k2, k3, hv5, hrow5, hnx5, k8, k9, k10, k5, k6, k7⟩ := HJ.out
                      have hW1 : Below wr.heap.size wr (wr.drew.alloc (.cells (bvals [92, d]).toArray 5)) := Below.alloc (Below.drew (Below.refl _ wr)) (Nat.le_refl _) _
                      have hb6 := box_grown hv5 (by decide) hrow5 hW1 hg6
                      have c6 := hb6.cell
                      have f6 := hb6.frozen
                      have hr6 := k5.same (W' := w6.setCell ⟨w.heap.size + 2, 0, none⟩ (.slice A6 n6 c6')) ((Below.heap_setCell _ _ _ _ (by show w.heap.size ≠ w.heap.size + 2; omega)).trans ((hg6.block _ (Nat.lt_of_lt_of_le k5.s.lt hW1.size) (fun e => by have := (hrow5.lt _ e.symm).1; omega)).trans (hW1.block _ k5.s.lt))) ((Below.heap_setCell _ _ _ _ (by show w.heap.size + 1 ≠ w.heap.size + 2; omega)).trans ((hg6.block _ (Nat.lt_of_lt_of_le k5.o.lt hW1.size) (fun e => by have := (hrow5.lt _ e.symm).1; omega)).trans (hW1.block _ k5.o.lt)))
                      have hp6 := ((k6.below hW1 k6.lt).grown hg6 (own_ne hrow5 k6 (by decide)).symm).far (p := ⟨w.heap.size + 2, 0, none⟩) (bk_ne k6 (show Bk wr (w.heap.size + 2) 80 _ from hv5) (by decide)) (.slice A6 n6 c6')
                      have H6 := Lib.hid (And.intro hr6 (And.intro hp6 (Cb.app2 (M := w2.heap.size) (n1 := w.heap.size + 3) hv5 hrow5 hnx5 k8 k9 k10 (by decide) (by omega) (by omega) (by omega) hW1 hg6 hown6 hv6)))
                      clear hown6 hg6 hv6 hb6 hr6 hp6 hW1 k1 k2 k3 hv5 hrow5 hnx5 k8 k10 k5 k6 k7
                      refine hK _ _ ?_
                      clear hK K
                      refine wpAnyIn_ready (rs := [7]) (by kernel_rfl) (by simp) ?_
                      refine AllReadyIn.cons rfl (fun K hK => ?_) AllReadyIn.nil
                      go_simp
                      refine hK _ _ ?_
                      clear hK K
                      refine wpAnyIn_done (by kernel_rfl) ?_ _
                      gi_wp2_with fail
                      obtain ⟨hr6, hp6, q1, q2, q3, q4⟩ := H6.out
                      obtain ⟨k1, k2, k3, hv5, hrow5, hnx5, k8, _, k10, k5, k6, k7⟩ := HJ.out
                      exact ⟨⟨j + 1, T ++ [92, d], by omega, by go_num, k1.trans q1, k2.trans q2, fun k hk => (q3 k hk).trans (k3 k hk), by rw [bvals_app, List.length_append]; exact q4, hr6, hp6, by rw [k7, HD.out, qbs_snoc, List.append_assoc]⟩, by simp [intOf]; omega⟩
                    · go_simp
                      refine hK _ _ ?_
                      clear hK K
                      refine wpAnyIn_ready (rs := [0]) (by kernel_rfl) (by simp) ?_
                      refine AllReadyIn.cons rfl (fun K hK => ?_) AllReadyIn.nil
                      go_simp
                      refine hK _ _ ?_
                      clear hK K
                      refine wpAnyIn_ready (rs := [6]) (by kernel_rfl) (by simp) ?_
                      refine AllReadyIn.cons rfl (fun K hK => ?_) AllReadyIn.nil
                      refine stepIn_append_rd rfl (.tmp 17) (.tmp 22) 80 rfl w2.heap.size 5 i0 _ 1 1 Try.underlying80 hi hz0 hz1 hz2 rfl (by decide) (.slice A5 T.length c5) T.length (bvals T) rfl H4.out.1 (.slice (some ⟨wr.heap.size, 0, none⟩) 2 2) 2 (wr.heap.size + 1) (bvals [92, d]) rfl H4.out.2 (one_bytes _) (by unfold maxLen; omega) (by omega) (by simp; omega) ?_
                      intro v6 w6 hown6 hg6 hv6
                      obtain ⟨A6, n6, c6', rfl⟩ := own_form' hown6
                      obtain ⟨k1, k2, k3, hv5, hrow5, hnx5, k8, k9, k10, k5, k6, k7⟩ := HJ.out
                      have hW1 : Below wr.heap.size wr (wr.drew.alloc (.cells (bvals [92, d]).toArray 5)) := Below.alloc (Below.drew (Below.refl _ wr)) (Nat.le_refl _) _
                      have hb6 := box_grown hv5 (by decide) hrow5 hW1 hg6
                      have c6 := hb6.cell
                      have f6 := hb6.frozen
                      have hr6 := k5.same (W' := w6.setCell ⟨w.heap.size + 2, 0, none⟩ (.slice A6 n6 c6')) ((Below.heap_setCell _ _ _ _ (by show w.heap.size ≠ w.heap.size + 2; omega)).trans ((hg6.block _ (Nat.lt_of_lt_of_le k5.s.lt hW1.size) (fun e => by have := (hrow5.lt _ e.symm).1; omega)).trans (hW1.block _ k5.s.lt))) ((Below.heap_setCell _ _ _ _ (by show w.heap.size + 1 ≠ w.heap.size + 2; omega)).trans ((hg6.block _ (Nat.lt_of_lt_of_le k5.o.lt hW1.size) (fun e => by have := (hrow5.lt _ e.symm).1; omega)).trans (hW1.block _ k5.o.lt)))
                      have hp6 := ((k6.below hW1 k6.lt).grown hg6 (own_ne hrow5 k6 (by decide)).symm).far (p := ⟨w.heap.size + 2, 0, none⟩) (bk_ne k6 (show Bk wr (w.heap.size + 2) 80 _ from hv5) (by decide)) (.slice A6 n6 c6')
                      have H6 := Lib.hid (And.intro hr6 (And.intro hp6 (Cb.app2 (M := w2.heap.size) (n1 := w.heap.size + 3) hv5 hrow5 hnx5 k8 k9 k10 (by decide) (by omega) (by omega) (by omega) hW1 hg6 hown6 hv6)))
                      clear hown6 hg6 hv6 hb6 hr6 hp6 hW1 k1 k2 k3 hv5 hrow5 hnx5 k8 k10 k5 k6 k7
                      refine hK _ _ ?_
                      clear hK K
                      refine wpAnyIn_ready (rs := [7]) (by kernel_rfl) (by simp) ?_
                      refine AllReadyIn.cons rfl (fun K hK => ?_) AllReadyIn.nil
                      go_simp
                      refine hK _ _ ?_
                      clear hK K
                      refine wpAnyIn_done (by kernel_rfl) ?_ _
                      gi_wp2_with fail
                      obtain ⟨hr6, hp6, q1, q2, q3, q4⟩ := H6.out
                      obtain ⟨k1, k2, k3, hv5, hrow5, hnx5, k8, _, k10, k5, k6, k7⟩ := HJ.out
                      exact ⟨⟨j + 1, T ++ [92, d], by omega, by go_num, k1.trans q1, k2.trans q2, fun k hk => (q3 k hk).trans (k3 k hk), by rw [bvals_app, List.length_append]; exact q4, hr6, hp6, by rw [k7, HD.out, qbs_snoc, List.append_assoc]⟩, by simp [intOf]; omega⟩
            · go_simp
              refine hK _ _ ?_
              clear hK K
              refine wpAnyIn_ready (rs := [0, 1]) (by kernel_rfl) (by simp) ?_
              refine AllReadyIn.cons rfl (fun K hK => ?_) (AllReadyIn.cons rfl (fun K hK => ?_) AllReadyIn.nil)
              · go_simp
                refine hK _ _ ?_
                clear hK K
                refine wpAnyIn_ready (rs := [1]) (by kernel_rfl) (by simp) ?_
                refine AllReadyIn.cons rfl (fun K hK => ?_) AllReadyIn.nil
                go_simp
                refine hK _ _ ?_
                clear hK K
                refine wpAnyIn_ready (rs := [2]) (by kernel_rfl) (by simp) ?_
                refine AllReadyIn.cons rfl (fun K hK => ?_) AllReadyIn.nil
                go_simp
                refine hK _ _ ?_
                clear hK K
                refine wpAnyIn_ready (rs := [4]) (by kernel_rfl) (by simp) ?_
                refine AllReadyIn.cons rfl (fun K hK => ?_) AllReadyIn.nil
                go_simp
                refine hK _ _ ?_
                clear hK K
                refine wpAnyIn_ready (rs := [5]) (by kernel_rfl) (by simp) ?_
                refine AllReadyIn.cons rfl (fun K hK => ?_) AllReadyIn.nil
                go_simp
                refine hK _ _ ?_
                clear hK K
                refine wpAnyIn_ready (rs := [6]) (by kernel_rfl) (by simp) ?_
                refine AllReadyIn.cons rfl (fun K hK => ?_) AllReadyIn.nil
                refine stepIn_append_rd rfl (.tmp 17) (.tmp 22) 80 rfl w2.heap.size 5 i0 _ 1 1 Try.underlying80 hi hz0 hz1 hz2 rfl (by decide) (.slice A5 T.length c5) T.length (bvals T) rfl H4.out.1 (.slice (some ⟨wr.heap.size, 0, none⟩) 2 2) 2 (wr.heap.size + 1) (bvals [92, d]) rfl H4.out.2 (one_bytes _) (by unfold maxLen; omega) (by omega) (by simp; omega) ?_
                intro v6 w6 hown6 hg6 hv6
                obtain ⟨A6, n6, c6', rfl⟩ := own_form' hown6
                obtain ⟨k1, k2, k3, hv5, hrow5, hnx5, k8, k9, k10, k5, k6, k7⟩ := HJ.out
                have hW1 : Below wr.heap.size wr (wr.drew.alloc (.cells (bvals [92, d]).toArray 5)) := Below.alloc (Below.drew (Below.refl _ wr)) (Nat.le_refl _) _
                have hb6 := box_grown hv5 (by decide) hrow5 hW1 hg6
                have c6 := hb6.cell
                have f6 := hb6.frozen
                have hr6 := k5.same (W' := w6.setCell ⟨w.heap.size + 2, 0, none⟩ (.slice A6 n6 c6')) ((Below.heap_setCell _ _ _ _ (by show w.heap.size ≠ w.heap.size + 2; omega)).trans ((hg6.block _ (Nat.lt_of_lt_of_le k5.s.lt hW1.size) (fun e => by have := (hrow5.lt _ e.symm).1; omega)).trans (hW1.block _ k5.s.lt))) ((Below.heap_setCell _ _ _ _ (by show w.heap.size + 1 ≠ w.heap.size + 2; omega)).trans ((hg6.block _ (Nat.lt_of_lt_of_le k5.o.lt hW1.size) (fun e => by have := (hrow5.lt _ e.symm).1; omega)).trans (hW1.block _ k5.o.lt)))
                have hp6 := ((k6.below hW1 k6.lt).grown hg6 (own_ne hrow5 k6 (by decide)).symm).far (p := ⟨w.heap.size + 2, 0, none⟩) (bk_ne k6 (show Bk wr (w.heap.size + 2) 80 _ from hv5) (by decide)) (.slice A6 n6 c6')
                have H6 := Lib.hid (And.intro hr6 (And.intro hp6 (Cb.app2 (M := w2.heap.size) (n1 := w.heap.size + 3) hv5 hrow5 hnx5 k8 k9 k10 (by decide) (by omega) (by omega) (by omega) hW1 hg6 hown6 hv6)))
                clear hown6 hg6 hv6 hb6 hr6 hp6 hW1 k1 k2 k3 hv5 hrow5 hnx5 k8 k10 k5 k6 k7
                refine hK _ _ ?_
                clear hK K
                refine wpAnyIn_ready (rs := [7]) (by kernel_rfl) (by simp) ?_
                refine AllReadyIn.cons rfl (fun K hK => ?_) AllReadyIn.nil
                go_simp
                refine hK _ _ ?_
                clear hK K
                refine wpAnyIn_done (by kernel_rfl) ?_ _
                gi_wp2_with fail
                obtain ⟨hr6, hp6, q1, q2, q3, q4⟩ := H6.out
                obtain ⟨k1, k2, k3, hv5, hrow5, hnx5, k8, _, k10, k5, k6, k7⟩ := HJ.out
                exact ⟨⟨j + 1, T ++ [92, d], by omega, by go_num, k1.trans q1, k2.trans q2, fun k hk => (q3 k hk).trans (k3 k hk), by rw [bvals_app, List.length_append]; exact q4, hr6, hp6, by rw [k7, HD.out, qbs_snoc, List.append_assoc]⟩, by simp [intOf]; omega⟩
              · go_simp
                refine hK _ _ ?_
                clear hK K
                refine wpAnyIn_ready (rs := [0, 2]) (by kernel_rfl) (by simp) ?_
                refine AllReadyIn.cons rfl (fun K hK => ?_) (AllReadyIn.cons rfl (fun K hK => ?_) AllReadyIn.nil)
                · go_simp
                  refine hK _ _ ?_
                  clear hK K
                  refine wpAnyIn_ready (rs := [2]) (by kernel_rfl) (by simp) ?_
                  refine AllReadyIn.cons rfl (fun K hK => ?_) AllReadyIn.nil
                  go_simp
                  refine hK _ _ ?_
                  clear hK K
                  refine wpAnyIn_ready (rs := [4]) (by kernel_rfl) (by simp) ?_
                  refine AllReadyIn.cons rfl (fun K hK => ?_) AllReadyIn.nil
                  go_simp
                  refine hK _ _ ?_
                  clear hK K
                  refine wpAnyIn_ready (rs := [5]) (by kernel_rfl) (by simp) ?_
                  refine AllReadyIn.cons rfl (fun K hK => ?_) AllReadyIn.nil
                  go_simp
                  refine hK _ _ ?_
                  clear hK K
                  refine wpAnyIn_ready (rs := [6]) (by kernel_rfl) (by simp) ?_
                  refine AllReadyIn.cons rfl (fun K hK => ?_) AllReadyIn.nil
                  refine stepIn_append_rd rfl (.tmp 17) (.tmp 22) 80 rfl w2.heap.size 5 i0 _ 1 1 Try.underlying80 hi hz0 hz1 hz2 rfl (by decide) (.slice A5 T.length c5) T.length (bvals T) rfl H4.out.1 (.slice (some ⟨wr.heap.size, 0, none⟩) 2 2) 2 (wr.heap.size + 1) (bvals [92, d]) rfl H4.out.2 (one_bytes _) (by unfold maxLen; omega) (by omega) (by simp; omega) ?_
                  intro v6 w6 hown6 hg6 hv6
                  obtain ⟨A6, n6, c6', rfl⟩ := own_form' hown6
                  obtain ⟨k1, k2, k3, hv5, hrow5, hnx5, k8, k9, k10, k5, k6, k7⟩ := HJ.out
                  have hW1 : Below wr.heap.size wr (wr.drew.alloc (.cells (bvals [92, d]).toArray 5)) := Below.alloc (Below.drew (Below.refl _ wr)) (Nat.le_refl _) _
                  have hb6 := box_grown hv5 (by decide) hrow5 hW1 hg6
                  have c6 := hb6.cell
                  have f6 := hb6.frozen
                  have hr6 := k5.same (W' := w6.setCell ⟨w.heap.size + 2, 0, none⟩ (.slice A6 n6 c6')) ((Below.heap_setCell _ _ _ _ (by show w.heap.size ≠ w.heap.size + 2; omega)).trans ((hg6.block _ (Nat.lt_of_lt_of_le k5.s.lt hW1.size) (fun e => by have := (hrow5.lt _ e.symm).1; omega)).trans (hW1.block _ k5.s.lt))) ((Below.heap_setCell _ _ _ _ (by show w.heap.size + 1 ≠ w.heap.size + 2; omega)).trans ((hg6.block _ (Nat.lt_of_lt_of_le k5.o.lt hW1.size) (fun e => by have := (hrow5.lt _ e.symm).1; omega)).trans (hW1.block _ k5.o.lt)))
                  have hp6 := ((k6.below hW1 k6.lt).grown hg6 (own_ne hrow5 k6 (by decide)).symm).far (p := ⟨w.heap.size + 2, 0, none⟩) (bk_ne k6 (show Bk wr (w.heap.size + 2) 80 _ from hv5) (by decide)) (.slice A6 n6 c6')
                  have H6 := Lib.hid (And.intro hr6 (And.intro hp6 (Cb.app2 (M := w2.heap.size) (n1 := w.heap.size + 3) hv5 hrow5 hnx5 k8 k9 k10 (by decide) (by omega) (by omega) (by omega) hW1 hg6 hown6 hv6)))
                  clear hown6 hg6 hv6 hb6 hr6 hp6 hW1 k1 k2 k3 hv5 hrow5 hnx5 k8 k10 k5 k6 k7
                  refine hK _ _ ?_
                  clear hK K
                  refine wpAnyIn_ready (rs := [7]) (by kernel_rfl) (by simp) ?_
                  refine AllReadyIn.cons rfl (fun K hK => ?_) AllReadyIn.nil
                  go_simp
                  refine hK _ _ ?_
                  clear hK K
                  refine wpAnyIn_done (by kernel_rfl) ?_ _
                  gi_wp2_with fail
                  obtain ⟨hr6, hp6, q1, q2, q3, q4⟩ := H6.out
                  obtain ⟨k1, k2, k3, hv5, hrow5, hnx5, k8, _, k10, k5, k6, k7⟩ := HJ.out
                  exact ⟨⟨j + 1, T ++ [92, d], by omega, by go_num, k1.trans q1, k2.trans q2, fun k hk => (q3 k hk).trans (k3 k hk), by rw [bvals_app, List.length_append]; exact q4, hr6, hp6, by rw [k7, HD.out, qbs_snoc, List.append_assoc]⟩, by simp [intOf]; omega⟩
                · go_simp
                  refine hK _ _ ?_
                  clear hK K
                  refine wpAnyIn_ready (rs := [0, 4]) (by kernel_rfl) (by simp) ?_
                  refine AllReadyIn.cons rfl (fun K hK => ?_) (AllReadyIn.cons rfl (fun K hK => ?_) AllReadyIn.nil)
                  · go_simp
                    refine hK _ _ ?_
                    clear hK K
                    refine wpAnyIn_ready (rs := [4]) (by kernel_rfl) (by simp) ?_
                    refine AllReadyIn.cons rfl (fun K hK => ?_) AllReadyIn.nil
                    go_simp
                    refine hK _ _ ?_
                    clear hK K
                    refine wpAnyIn_ready (rs := [5]) (by kernel_rfl) (by simp) ?_
                    refine AllReadyIn.cons rfl (fun K hK => ?_) AllReadyIn.nil
                    go_simp
                    refine hK _ _ ?_
                    clear hK K
                    refine wpAnyIn_ready (rs := [6]) (by kernel_rfl) (by simp) ?_
                    refine AllReadyIn.cons rfl (fun K hK => ?_) AllReadyIn.nil
                    refine stepIn_append_rd rfl (.tmp 17) (.tmp 22) 80 rfl w2.heap.size 5 i0 _ 1 1 Try.underlying80 hi hz0 hz1 hz2 rfl (by decide) (.slice A5 T.length c5) T.length (bvals T) rfl H4.out.1 (.slice (some ⟨wr.heap.size, 0, none⟩) 2 2) 2 (wr.heap.size + 1) (bvals [92, d]) rfl H4.out.2 (one_bytes _) (by unfold maxLen; omega) (by omega) (by simp; omega) ?_
                    intro v6 w6 hown6 hg6 hv6
                    obtain ⟨A6, n6, c6', rfl⟩ := own_form' hown6
                    obtain ⟨k1, k2, k3, hv5, hrow5, hnx5, k8, k9, k10, k5, k6, k7⟩ := HJ.out
                    have hW1 : Below wr.heap.size wr (wr.drew.alloc (.cells (bvals [92, d]).toArray 5)) := Below.alloc (Below.drew (Below.refl _ wr)) (Nat.le_refl _) _
                    have hb6 := box_grown hv5 (by decide) hrow5 hW1 hg6
                    have c6 := hb6.cell
                    have f6 := hb6.frozen
                    have hr6 := k5.same (W' := w6.setCell ⟨w.heap.size + 2, 0, none⟩ (.slice A6 n6 c6')) ((Below.heap_setCell _ _ _ _ (by show w.heap.size ≠ w.heap.size + 2; omega)).trans ((hg6.block _ (Nat.lt_of_lt_of_le k5.s.lt hW1.size) (fun e => by have := (hrow5.lt _ e.symm).1; omega)).trans (hW1.block _ k5.s.lt))) ((Below.heap_setCell _ _ _ _ (by show w.heap.size + 1 ≠ w.heap.size + 2; omega)).trans ((hg6.block _ (Nat.lt_of_lt_of_le k5.o.lt hW1.size) (fun e => by have := (hrow5.lt _ e.symm).1; omega)).trans (hW1.block _ k5.o.lt)))
                    have hp6 := ((k6.below hW1 k6.lt).grown hg6 (own_ne hrow5 k6 (by decide)).symm).far (p := ⟨w.heap.size + 2, 0, none⟩) (bk_ne k6 (show Bk wr (w.heap.size + 2) 80 _ from hv5) (by decide)) (.slice A6 n6 c6')
                    have H6 := Lib.hid (And.intro hr6 (And.intro hp6 (Cb.app2 (M := w2.heap.size) (n1 := w.heap.size + 3) hv5 hrow5 hnx5 k8 k9 k10 (by decide) (by omega) (by omega) (by omega) hW1 hg6 hown6 hv6)))
                    clear hown6 hg6 hv6 hb6 hr6 hp6 hW1 k1 k2 k3 hv5 hrow5 hnx5 k8 k10 k5 k6 k7
                    refine hK _ _ ?_
                    clear hK K
                    refine wpAnyIn_ready (rs := [7]) (by kernel_rfl) (by simp) ?_
                    refine AllReadyIn.cons rfl (fun K hK => ?_) AllReadyIn.nil
                    go_simp
                    refine hK _ _ ?_
                    clear hK K
                    refine wpAnyIn_done (by kernel_rfl) ?_ _
                    gi_wp2_with fail
                    obtain ⟨hr6, hp6, q1, q2, q3, q4⟩ := H6.out
                    obtain ⟨k1, k2, k3, hv5, hrow5, hnx5, k8, _, k10, k5, k6, k7⟩ := HJ.out
                    exact ⟨⟨j + 1, T ++ [92, d], by omega, by go_num, k1.trans q1, k2.trans q2, fun k hk => (q3 k hk).trans (k3 k hk), by rw [bvals_app, List.length_append]; exact q4, hr6, hp6, by rw [k7, HD.out, qbs_snoc, List.append_assoc]⟩, by simp [intOf]; omega⟩
                  · go_simp
                    refine hK _ _ ?_
                    clear hK K
                    refine wpAnyIn_ready (rs := [0, 5]) (by kernel_rfl) (by simp) ?_
                    refine AllReadyIn.cons rfl (fun K hK => ?_) (AllReadyIn.cons rfl (fun K hK => ?_) AllReadyIn.nil)
                    · go_simp
                      refine hK _ _ ?_
                      clear hK K
                      refine wpAnyIn_ready (rs := [5]) (by kernel_rfl) (by simp) ?_
                      refine AllReadyIn.cons rfl (fun K hK => ?_) AllReadyIn.nil
                      go_simp
                      refine hK _ _ ?_
                      clear hK K
                      refine wpAnyIn_ready (rs := [6]) (by kernel_rfl) (by simp) ?_
                      refine AllReadyIn.cons rfl (fun K hK => ?_) AllReadyIn.nil
                      refine stepIn_append_rd rfl (.tmp 17) (.tmp 22) 80 rfl w2.heap.size 5 i0 _ 1 1 Try.underlying80 hi hz0 hz1 hz2 rfl (by decide) (.slice A5 T.length c5) T.length (bvals T) rfl H4.out.1 (.slice (some ⟨wr.heap.size, 0, none⟩) 2 2) 2 (wr.heap.size + 1) (bvals [92, d]) rfl H4.out.2 (one_bytes _) (by unfold maxLen; omega) (by omega) (by simp; omega) ?_
                      intro v6 w6 hown6 hg6 hv6
                      obtain ⟨A6, n6, c6', rfl⟩ := own_form' hown6
                      obtain ⟨k1, k2, k3, hv5, hrow5, hnx5, k8, k9, k10, k5, k6, k7⟩ := HJ.out
                      have hW1 : Below wr.heap.size wr (wr.drew.alloc (.cells (bvals [92, d]).toArray 5)) := Below.alloc (Below.drew (Below.refl _ wr)) (Nat.le_refl _) _
                      have hb6 := box_grown hv5 (by decide) hrow5 hW1 hg6
                      have c6 := hb6.cell
                      have f6 := hb6.frozen
                      have hr6 := k5.same (W' := w6.setCell ⟨w.heap.size + 2, 0, none⟩ (.slice A6 n6 c6')) ((Below.heap_setCell _ _ _ _ (by show w.heap.size ≠ w.heap.size + 2; omega)).trans ((hg6.block _ (Nat.lt_of_lt_of_le k5.s.lt hW1.size) (fun e => by have := (hrow5.lt _ e.symm).1; omega)).trans (hW1.block _ k5.s.lt))) ((Below.heap_setCell _ _ _ _ (by show w.heap.size + 1 ≠ w.heap.size + 2; omega)).trans ((hg6.block _ (Nat.lt_of_lt_of_le k5.o.lt hW1.size) (fun e => by have := (hrow5.lt _ e.symm).1; omega)).trans (hW1.block _ k5.o.lt)))
                      have hp6 := ((k6.below hW1 k6.lt).grown hg6 (own_ne hrow5 k6 (by decide)).symm).far (p := ⟨w.heap.size + 2, 0, none⟩) (bk_ne k6 (show Bk wr (w.heap.size + 2) 80 _ from hv5) (by decide)) (.slice A6 n6 c6')
                      have H6 := Lib.hid (And.intro hr6 (And.intro hp6 (Cb.app2 (M := w2.heap.size) (n1 := w.heap.size + 3) hv5 hrow5 hnx5 k8 k9 k10 (by decide) (by omega) (by omega) (by omega) hW1 hg6 hown6 hv6)))
                      clear hown6 hg6 hv6 hb6 hr6 hp6 hW1 k1 k2 k3 hv5 hrow5 hnx5 k8 k10 k5 k6 k7
                      refine hK _ _ ?_
                      clear hK K
                      refine wpAnyIn_ready (rs := [7]) (by kernel_rfl) (by simp) ?_
                      refine AllReadyIn.cons rfl (fun K hK => ?_) AllReadyIn.nil
                      go_simp
                      refine hK _ _ ?_
                      clear hK K
                      refine wpAnyIn_done (by kernel_rfl) ?_ _
                      gi_wp2_with fail
                      obtain ⟨hr6, hp6, q1, q2, q3, q4⟩ := H6.out
                      obtain ⟨k1, k2, k3, hv5, hrow5, hnx5, k8, _, k10, k5, k6, k7⟩ := HJ.out
                      exact ⟨⟨j + 1, T ++ [92, d], by omega, by go_num, k1.trans q1, k2.trans q2, fun k hk => (q3 k hk).trans (k3 k hk), by rw [bvals_app, List.length_append]; exact q4, hr6, hp6, by rw [k7, HD.out, qbs_snoc, List.append_assoc]⟩, by simp [intOf]; omega⟩
                    · go_simp
                      refine hK _ _ ?_
                      clear hK K
                      refine wpAnyIn_ready (rs := [0]) (by kernel_rfl) (by simp) ?_
                      refine AllReadyIn.cons rfl (fun K hK => ?_) AllReadyIn.nil
                      go_simp
                      refine hK _ _ ?_
                      clear hK K
                      refine wpAnyIn_ready (rs := [6]) (by kernel_rfl) (by simp) ?_
                      refine AllReadyIn.cons rfl (fun K hK => ?_) AllReadyIn.nil
                      refine stepIn_append_rd rfl (.tmp 17) (.tmp 22) 80 rfl w2.heap.size 5 i0 _ 1 1 Try.underlying80 hi hz0 hz1 hz2 rfl (by decide) (.slice A5 T.length c5) T.length (bvals T) rfl H4.out.1 (.slice (some ⟨wr.heap.size, 0, none⟩) 2 2) 2 (wr.heap.size + 1) (bvals [92, d]) rfl H4.out.2 (one_bytes _) (by unfold maxLen; omega) (by omega) (by simp; omega) ?_
                      intro v6 w6 hown6 hg6 hv6
                      obtain ⟨A6, n6, c6', rfl⟩ := own_form' hown6
                      obtain ⟨k1, k2, k3, hv5, hrow5, hnx5, k8, k9, k10, k5, k6, k7⟩ := HJ.out
                      have hW1 : Below wr.heap.size wr (wr.drew.alloc (.cells (bvals [92, d]).toArray 5)) := Below.alloc (Below.drew (Below.refl _ wr)) (Nat.le_refl _) _
                      have hb6 := box_grown hv5 (by decide) hrow5 hW1 hg6
                      have c6 := hb6.cell
                      have f6 := hb6.frozen
                      have hr6 := k5.same (W' := w6.setCell ⟨w.heap.size + 2, 0, none⟩ (.slice A6 n6 c6')) ((Below.heap_setCell _ _ _ _ (by show w.heap.size ≠ w.heap.size + 2; omega)).trans ((hg6.block _ (Nat.lt_of_lt_of_le k5.s.lt hW1.size) (fun e => by have := (hrow5.lt _ e.symm).1; omega)).trans (hW1.block _ k5.s.lt))) ((Below.heap_setCell _ _ _ _ (by show w.heap.size + 1 ≠ w.heap.size + 2; omega)).trans ((hg6.block _ (Nat.lt_of_lt_of_le k5.o.lt hW1.size) (fun e => by have := (hrow5.lt _ e.symm).1; omega)).trans (hW1.block _ k5.o.lt)))
                      have hp6 := ((k6.below hW1 k6.lt).grown hg6 (own_ne hrow5 k6 (by decide)).symm).far (p := ⟨w.heap.size + 2, 0, none⟩) (bk_ne k6 (show Bk wr (w.heap.size + 2) 80 _ from hv5) (by decide)) (.slice A6 n6 c6')
                      have H6 := Lib.hid (And.intro hr6 (And.intro hp6 (Cb.app2 (M := w2.heap.size) (n1 := w.heap.size + 3) hv5 hrow5 hnx5 k8 k9 k10 (by decide) (by omega) (by omega) (by omega) hW1 hg6 hown6 hv6)))
                      clear hown6 hg6 hv6 hb6 hr6 hp6 hW1 k1 k2 k3 hv5 hrow5 hnx5 k8 k10 k5 k6 k7
                      refine hK _ _ ?_
                      clear hK K
                      refine wpAnyIn_ready (rs := [7]) (by kernel_rfl) (by simp) ?_
                      refine AllReadyIn.cons rfl (fun K hK => ?_) AllReadyIn.nil
                      go_simp
                      refine hK _ _ ?_
                      clear hK K
                      refine wpAnyIn_done (by kernel_rfl) ?_ _
                      gi_wp2_with fail
                      obtain ⟨hr6, hp6, q1, q2, q3, q4⟩ := H6.out
                      obtain ⟨k1, k2, k3, hv5, hrow5, hnx5, k8, _, k10, k5, k6, k7⟩ := HJ.out
                      exact ⟨⟨j + 1, T ++ [92, d], by omega, by go_num, k1.trans q1, k2.trans q2, fun k hk => (q3 k hk).trans (k3 k hk), by rw [bvals_app, List.length_append]; exact q4, hr6, hp6, by rw [k7, HD.out, qbs_snoc, List.append_assoc]⟩, by simp [intOf]; omega⟩
          · obtain rfl : j = x.tx.length := by omega
            rw [List.take_of_length_le (Nat.le_refl _)] at k7
            have HK := Lib.hid (And.intro k1 (And.intro k2 (And.intro k3 (And.intro (show Cb w.heap.size w2.heap.size (w.heap.size + 2) 80 5 1 w T.length (bvals T) X wr from ⟨⟨v5, hv5, hrow5, hnx5⟩, k8, k9, k10⟩) (And.intro k5 k7)))))
            clear k1 k2 k3 k5 k6 k7 k8 k10 hv5 hrow5 hnx5
            gi_wp2_with fail
            obtain ⟨k1, k2, k3, k4, k5, k7⟩ := HK.out
            have ep : patP x = qbs x.tx := by unfold patP; rw [Hq.out]; rfl
            exact ⟨k1, k2, k3, by rw [patL_snoc, ep, ← k7]; exact k4, by rw [patL_snoc, List.length_append, List.length_append]; simp only [List.length_cons, List.length_nil]; omega, k5, by rw [List.any_append, HZ.out.2]; simp [Hx.out]⟩
    · have Hx := Lib.hid hx
      rw [hx] at x0
      clear hx
      gi_wp2_with fail
      obtain ⟨hv, hrow, hnx, h5, _, h7, hbk⟩ := HW.out
      obtain ⟨z1, z2, z3, z4, z5⟩ := HZ.out.1.reset (B := w.heap.size) (M := w2.heap.size) (n₀ := w2.heap.size) (n1 := w.heap.size + 3) (Nat.le_refl _) (by omega) hrl
      exact ⟨z2, z3, z4, rfl, z1, h5.trans z5, fun k hk => ⟨(h7 k hk).1, Nat.lt_of_lt_of_le (h7 k hk).2 z5.size⟩, by rw [List.any_append]; simp [Hx.out]⟩
  case done =>
    rintro D X ys W hD rfl ⟨⟨⟨v, hv, hrow, hnx⟩, h5, h6, h7⟩, ht, hrs, hne⟩ hK
    have hcv := Lib.hid (bytes_back hrow)
    have HD := Lib.hid (And.intro h5 (And.intro hrow (And.intro hK (And.intro hv (And.intro hrs hne)))))
    have c0 := hrs.s.cell 0
    have c1 := hrs.o.cell 0
    simp only [List.getElem?_toArray, List.getElem?_cons_zero] at c0 c1
    have f0 := hrs.s.frozen 0
    have f1 := hrs.o.frozen 0
    have hrl := hrs.o.lt
    have c2 := hv.cell
    have H3 := Lib.hid (And.intro h5 (And.intro hrs hK))
    clear hv hrow hnx h5 hK hrs hne
    gi_wp2_with (rw [hcv.out])
    obtain ⟨W3, hW3⟩ : ∃ W3, W3 = W := ⟨_, rfl⟩
    rw [← hW3] at H3 ⊢
    obtain ⟨hb3, hr3, hK3⟩ := H3.out
    obtain ⟨W4, hW4⟩ : ∃ W4, W4 = (W3.setCell ⟨w.heap.size, 0, none⟩ (.string ⟨(patL (pcsL l)).toArray⟩)).setCell ⟨w.heap.size + 1, 0, none⟩ (.bool true) := ⟨_, rfl⟩
    rw [← hW4]
    have hs4 : Bk W4 w.heap.size 9 #[.string ⟨(patL (pcsL l)).toArray⟩] := by
      have := (hr3.s.set 0 (.string ⟨(patL (pcsL l)).toArray⟩)).far (p := ⟨w.heap.size + 1, 0, none⟩) (by show w.heap.size ≠ w.heap.size + 1; omega) (.bool true)
      rw [hW4]
      simpa using this
    have ho4 : Bk W4 (w.heap.size + 1) 4 #[.bool true] := by
      have := (hr3.o.far (p := ⟨w.heap.size, 0, none⟩) (by show w.heap.size + 1 ≠ w.heap.size; omega) (.string ⟨(patL (pcsL l)).toArray⟩)).set 0 (.bool true)
      rw [hW4]
      simpa using this
    have hK4 : W4.heap[D]? = some (.deferred (some [])) := by
      rw [hW4]
      exact (Below.heap_setCell _ _ _ D (by show D ≠ w.heap.size + 1; omega)).trans ((Below.heap_setCell _ _ _ D (by show D ≠ w.heap.size; omega)).trans hK3)
    have hb4 : Below w.heap.size w W4 := by
      rw [hW4]
      exact (hb3.setCell (p := ⟨w.heap.size, 0, none⟩) (Nat.le_refl _) _).setCell (p := ⟨w.heap.size + 1, 0, none⟩) (by show w.heap.size ≤ w.heap.size + 1; omega) _
    have hbk := belowK_b (w := w) (Nat.le_refl _) W4 D (.deferred (some [])) (.deferred none) (by omega) hK4 rfl rfl
    have e0 : (W4.putObj D (.deferred none)).cell? ⟨w.heap.size, 0, none⟩ = some (.string ⟨(patL (pcsL l)).toArray⟩) := by
      rw [Bk.cell (show Bk (W4.putObj D (.deferred none)) w.heap.size 9 #[.string ⟨(patL (pcsL l)).toArray⟩] from (World.putObj_heap_other (by omega)).trans hs4)]; rfl
    have e1 : (W4.putObj D (.deferred none)).cell? ⟨w.heap.size + 1, 0, none⟩ = some (.bool true) := by
      rw [Bk.cell (show Bk (W4.putObj D (.deferred none)) (w.heap.size + 1) 4 #[.bool true] from (World.putObj_heap_other (by omega)).trans ho4)]; rfl
    have hv : valB l = true := by unfold valB; rw [HD.out.2.2.2.2.2]; rfl
    have hvt : patT l = patL (pcsL l) := by unfold patT; rw [if_pos hv]
    refine ⟨by simp, .inl ⟨_, _, rfl, run_takeDeferred hK4, ?_⟩⟩
    exact ⟨.tuple #[.string ⟨(patL (pcsL l)).toArray⟩, .bool true], by simp [results, Try.results38, go_sem, e0, e1], ⟨by rw [hv, hvt], hb4.trans hbk⟩⟩
  case stop =>
    rintro D cd X pre W hD hSp ⟨rfl, hrx⟩ hK
    have hbk := belowK_b (w := w) (Nat.le_refl _) W D (.deferred (some [])) (.deferred none) (by omega) hK rfl rfl
    have e0 : (W.putObj D (.deferred none)).cell? ⟨w.heap.size, 0, none⟩ = some (.string ⟨#[]⟩) := by
      rw [Bk.cell (show Bk (W.putObj D (.deferred none)) w.heap.size 9 #[.string ⟨#[]⟩] from (World.putObj_heap_other (by omega)).trans hrx.rs.s)]; rfl
    have e1 : (W.putObj D (.deferred none)).cell? ⟨w.heap.size + 1, 0, none⟩ = some (.bool false) := by
      rw [Bk.cell (show Bk (W.putObj D (.deferred none)) (w.heap.size + 1) 4 #[.bool false] from (World.putObj_heap_other (by omega)).trans hrx.rs.o)]; rfl
    have hv : valB l = false := by unfold valB; rw [any_prefix hSp hrx.ex]; rfl
    have hvt : patT l = [] := by unfold patT; rw [hv]; rfl
    have HD := Lib.hid (And.intro hrx.bl (And.intro hbk (And.intro hK (And.intro hv hvt))))
    have HE := Lib.hid (And.intro e0 e1)
    clear hrx hbk hK e0 e1 hv hvt
    gi_wp2
    obtain ⟨e0, e1⟩ := HE.out
    refine ⟨by simp, .inl ⟨_, _, rfl, run_takeDeferred HD.out.2.2.1, ?_⟩⟩
    exact ⟨.tuple #[.string ⟨#[]⟩, .bool false], by simp [results, Try.results38, go_sem, e0, e1], ⟨by rw [HD.out.2.2.2.1, HD.out.2.2.2.2], HD.out.1.trans HD.out.2.1⟩⟩
end Go.Proofs.Ytjkiapgboljabaa
