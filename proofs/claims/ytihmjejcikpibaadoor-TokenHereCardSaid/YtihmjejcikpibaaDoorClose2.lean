/- The program's Closing: what shuts all that is open behind a text. -/
import Derived.Test.YtihmjejcikpibaaDoorClose1
import Derived.Test.YtihmjejcikpibaaDoorRf
namespace Go.Proofs.YtihmjejcikpibaaDoor
open Go.RowKit
set_option linter.unusedVariables false
set_option linter.unusedSimpArgs false
set_option maxRecDepth 100000
attribute [local go_sem] Oper.semAt_some
/-- A letter of a mode. -/
abbrev VL := { c : UInt8 // Val c = true }
set_option maxRecDepth 100000 in
set_option maxHeartbeats 1000000 in
theorem last1_in (n l Bn g c n₀ : Nat) (X : Nat → Prop) (vs : List VL) (J Jx : List VL → World → Prop)
    (hY : ∀ pre x W, J pre W → pre.length < vs.length → YieldAt Fence.wide (n - 1) Tryd.prog l #[.int .i64 (modeOf x.1)] W fun e W' =>
      (e = .returned (.bool true) ∧ J (pre ++ [x]) W' ∧ KeepX n₀ X W W') ∨ (e = .returned (.bool false) ∧ Jx (pre ++ [x]) W'))
    (W : World) (hBn : W.cell? ⟨Bn, 0, none⟩ = some (.slice (some ⟨g, 0, none⟩) vs.length c)) (hBn0 : Bn < n₀) (hg : g < n₀) (hx1 : ¬ X Bn) (hx2 : ¬ X g) (hcs : ∀ k (x : VL), vs.reverse[k]? = some x → W.cell? ⟨g, k * 2, none⟩ = some (.int .i64 (modeOf x.1)))
    (hlen : vs.length ≤ 100000) (hc : vs.length ≤ c) (h0 : J [] W) :
    CallsIn Fence.wide n Tryd.prog 70 #[.func (.yield l) #[] #[], .pointer (some ⟨Bn, 0, none⟩)] W fun e W' => (∃ v, e = .returned v) ∧
      ((∃ ys, ys = vs ∧ J ys W') ∨ (∃ pre, pre <+: vs ∧ Jx pre W')) := by
  have HC := Lib.hid hcs
  clear hcs
  refine callsIn_of_wp Tryd.func70 rfl trivial ?_ rfl
  simp only [Tryd.ntmps70, List.size_toArray, List.length_cons, List.length_nil, Nat.reduceAdd, Nat.reduceSub, Array.replicate_succ, Array.replicate_zero, List.push_toArray, List.append_toArray, List.nil_append, List.cons_append]
  gi_wp2
  gi_loopw [3] (fun i wr => ∃ k : Nat, k ≤ vs.length ∧ i = .int .i64 ((vs.length : Int) - 1 - k) ∧ KeepX n₀ X W wr ∧ J (vs.take k) wr) (fun i _ => (intOf i + 1).toNat)
  case atStart => exact ⟨0, by omega, by simp, KeepX.refl _ _ _, h0⟩
  case round =>
    obtain ⟨k, hk, rfl, hb, hJs⟩ := hrel
    have hBn' := (hb.cell hBn0 hx1 0).trans hBn
    by_cases hlt : k < vs.length
    · obtain ⟨x, hx⟩ : ∃ x, vs[k]? = some x := ⟨_, List.getElem?_eq_getElem hlt⟩
      have hcell : wr.cell? ⟨g, (vs.length - 1 - k) * 2, none⟩ = some (.int .i64 (modeOf x.1)) := (hb.cell hg hx2 _).trans (HC.out _ x (by
        rw [List.getElem?_reverse (by omega)]
        rw [show vs.length - 1 - (vs.length - 1 - k) = k by omega]
        exact hx))
      have k1 : (0 : Int) ≤ (vs.length : Int) - 1 - k := by omega
      have k2 : (vs.length : Int) - 1 - k < (vs.length : Int) := by omega
      have k3 : ((vs.length : Int) - 1 - k).toNat = vs.length - 1 - k := by omega
      have etk : vs.take (k + 1) = vs.take k ++ [x] := by
        obtain ⟨h1, h2⟩ := List.getElem?_eq_some_iff.1 hx
        rw [List.take_succ_eq_append_getElem h1, h2]
      obtain ⟨fn, tmps, assign, body, hy, hR⟩ := hY (vs.take k) x wr hJs (by rw [List.length_take]; omega)
      have HR := Lib.hid (And.intro hb (And.intro hJs (And.intro hx etk)))
      clear hb hJs hx etk hBn h0 hY
      gi_wp2
      refine ⟨fun h => by simp [Fence.wide] at h, ?_⟩
      refine hR.mono ?_
      rintro e W3 (⟨rfl, hJ3, hk3⟩ | ⟨rfl, hJx3⟩)
      · have hJ4 := hJ3
        rw [← HR.out.2.2.2] at hJ4
        have H3 := Lib.hid (And.intro hJ4 (HR.out.1.trans hk3))
        clear hJ3 hk3 hJ4
        gi_wp2
        go_roundw
        case rel => exact ⟨k + 1, by omega, by simp; omega, H3.out.2, H3.out.1⟩
        case measure => simp [intOf]; omega
      · have hJ4 := hJx3
        rw [← HR.out.2.2.2] at hJ4
        have H3 := Lib.hid hJ4
        clear hJx3 hJ4
        gi_wp2
        refine bodyPost_ret (results_none rfl _ _ _) rfl ?_
        exact ⟨⟨_, rfl⟩, .inr ⟨vs.take (k + 1), List.take_prefix _ _, H3.out⟩⟩
    · have e : k = vs.length := by omega
      subst e
      have HR := Lib.hid hJs
      clear hJs h0 hY
      gi_wp2
      go_end0
      exact ⟨⟨_, rfl⟩, .inl ⟨_, rfl, by have := HR.out; rwa [List.take_of_length_le (Nat.le_refl _)] at this⟩⟩
theorem last_m (v : Value) (w : World) (hv : ∃ A n c, v = .slice A n c) :
    Calls Tryd.prog 48 #[v] w fun e w' => e = .returned (.func (.func 70) #[] #[.pointer (some ⟨w.heap.size, 0, none⟩)]) ∧ w' = w.alloc (.cells #[v] 75) := by
  obtain ⟨A, n, c, rfl⟩ := hv
  go_enter Tryd.func48, Tryd.ntmps48
  go_wp2
  go_ret
  exact ⟨rfl, rfl⟩
theorem last_stops (n Bn g c n₀ : Nat) (X : Nat → Prop) (vs : List VL) (w : World) (hBn : Bn < w.heap.size) (hn₀ : n₀ ≤ w.heap.size) (hB0 : Bn < n₀) (hg : g < n₀) (hx1 : ¬ X Bn) (hx2 : ¬ X g)
    (hc : w.cell? ⟨Bn, 0, none⟩ = some (.slice (some ⟨g, 0, none⟩) vs.length c)) (hcs : ∀ k (x : VL), vs.reverse[k]? = some x → w.cell? ⟨g, k * 2, none⟩ = some (.int .i64 (modeOf x.1))) (hlen : vs.length ≤ 100000) (hcap : vs.length ≤ c) :
    SeqStopsK Fence.wide n Tryd.prog 70 #[.pointer (some ⟨Bn, 0, none⟩)] (fun x : VL => #[Value.int .i64 (modeOf x.1)]) (KeepX n₀ X) (fun ys => ys = vs) (fun pre => pre <+: vs) vs.length w := fun l J Jx W hW _ _ hY h0 =>
  last1_in n l Bn g c n₀ X vs J Jx hY W ((hW.cell (p := ⟨Bn, 0, none⟩) hBn).trans hc) hB0 hg hx1 hx2 (fun k x hx => (hW.cell (p := ⟨g, k * 2, none⟩) (show g < w.heap.size by omega)).trans (hcs k x hx)) hlen hcap h0
/-- What has been collected. -/
def outL (pre : List VL) : List UInt8 := pre.flatMap fun x => cloL x.1
theorem outL_snoc (pre : List VL) (x : VL) : outL (pre ++ [x]) = outL pre ++ cloL x.1 := by simp [outL]
theorem outL_len (pre : List VL) : (outL pre).length ≤ 2 * pre.length := by
  induction pre with
  | nil => simp [outL]
  | cons x r ih => have : outL (x :: r) = cloL x.1 ++ outL r := rfl
                   rw [this, List.length_append, List.length_cons]; have := cloL_len x.1; omega
theorem closing_row {W : World} {N : Nat} {v : Value} {pre : List VL} {x : VL} (h : W.ownsRow N 5 1 v ((outL pre).length + (ByteArray.mk (cloL x.1).toArray).size) (bvals (outL pre) ++ Lib.strCells ⟨(cloL x.1).toArray⟩)) :
    W.ownsRow N 5 1 v (outL (pre ++ [x])).length (bvals (outL (pre ++ [x]))) := by
  have e : bvals (outL (pre ++ [x])) = bvals (outL pre) ++ Lib.strCells ⟨(cloL x.1).toArray⟩ := by rw [outL_snoc]; unfold bvals Lib.strCells; simp
  rw [e, outL_snoc, List.length_append]
  exact h
theorem closing_back {W : World} {N : Nat} {v : Value} {l : List UInt8} (h : W.ownsRow N 5 1 v l.length (bvals l)) :
    (Go.convert 78 9 v).run Tryd.prog W = .ok (.string ⟨l.toArray⟩) W := by
  rcases h.2 with ⟨rfl, h0⟩ | ⟨g, cap, cur, rfl, _⟩
  · obtain rfl := List.eq_nil_of_length_eq_zero h0
    rw [run_convert_bytes_string W _ _ _ none 0 0 Tryd.underlying78 Tryd.underlying5 Tryd.underlying9]
    rfl
  · refine run_convert_bytes_back (P := Tryd.prog) W 78 9 5 ⟨g, 0, none⟩ cap l Tryd.underlying78 Tryd.underlying5 Tryd.underlying9 ?_
    intro j hj
    rw [Addr.add_lit, Nat.zero_add]
    refine own_cell h j _ ?_
    rw [bvals, List.getElem?_map, List.getElem?_eq_getElem hj]
    rfl
theorem vl_of (st : Stk) (h : ∀ y ∈ st, Val y.1 = true) : ∃ vs : List VL, vs.map (·.1) = st.map (·.1) ∧ vs.length = st.length ∧ outL vs = clo st := by
  induction st with
  | nil => exact ⟨[], rfl, rfl, rfl⟩
  | cons y r ih =>
    obtain ⟨vs, h1, h2, h3⟩ := ih (fun z hz => h z (by simp [hz]))
    refine ⟨⟨y.1, h y (by simp)⟩ :: vs, by simp [h1], by simp [h2], ?_⟩
    show cloL y.1 ++ outL vs = _
    rw [h3]; rfl
set_option maxRecDepth 100000 in
set_option maxHeartbeats 2000000 in
theorem closing_m (l : List UInt8) (w : World) (hl : l.length ≤ 900) :
    Calls Tryd.prog 37 #[.string ⟨l.toArray⟩] w fun e w' => e = .returned (.string ⟨(clo (rAt l l.length).1).toArray⟩) ∧ Below w.heap.size w w' := by
  obtain ⟨vs, hv1, hv2, hv3⟩ := vl_of (rAt l l.length).1 (rAt_v l l.length).all
  have hvl : vs.length ≤ 901 := by rw [hv2]; have := rAt_len l l.length; omega
  have HV := Lib.hid (And.intro hv1 (And.intro hv2 hv3))
  clear hv1 hv2 hv3
  have hmix : Tryd.prog.follows .mixedOrders = true := by kernel_rfl
  obtain ⟨i0, hi, hz0, hz1, hz2⟩ := info_parts Tryd.infoByte
  refine (callsIn_wide (n := 5)).1 ?_
  refine callsIn_of_wp_marks Tryd.func37 rfl trivial ?_ rfl
  simp only [Tryd.ntmps37, List.size_toArray, List.length_cons, List.length_nil, Nat.reduceAdd, Nat.reduceSub, Array.replicate_succ, Array.replicate_zero, List.push_toArray, List.append_toArray, List.nil_append, List.cons_append]
  gi_wp2_with (first
    | (refine ⟨trivial, ?_⟩
       gi_at_call 47
       refine (callsIn_wide.2 (run_m l _ (by omega))).mono ?_
       rintro e w1 ⟨g, c, rfl, hfr, hb1⟩
       unfold Fr at hfr
       rw [← HV.out.2.1] at hfr ⊢
       have H1 := Lib.hid (And.intro hfr hb1)
       clear hfr hb1)
    | (refine ⟨trivial, ?_⟩
       gi_at_call 48
       refine (callsIn_wide.2 (last_m _ _ ⟨_, _, _, rfl⟩)).mono ?_
       rintro e w2 ⟨rfl, rfl⟩))
  obtain ⟨W0, hW0⟩ : ∃ W0, (w1.alloc (.cells #[.slice none 0 0] 78)).alloc (.cells #[.slice (some ⟨g, 0, none⟩) vs.length c] 75) = W0 := ⟨_, rfl⟩
  have bO : Boxed W0 w1.heap.size 78 (.slice none 0 0) := by rw [← hW0]; exact (Boxed.new w1 _ _).alloc _
  have bL : Boxed W0 (w1.heap.size + 1) 75 (.slice (some ⟨g, 0, none⟩) vs.length c) := by rw [← hW0]; have := Boxed.new (w1.alloc (.cells #[.slice none 0 0] 78)) 75 (.slice (some ⟨g, 0, none⟩) vs.length c); rwa [World.size_alloc] at this
  have hs0 : W0.heap.size = w1.heap.size + 2 := by rw [← hW0]; simp
  have hb0 : Below w1.heap.size w1 W0 := by rw [← hW0]; exact ((Below.refl _ w1).alloc (Nat.le_refl _) _).alloc (by simp) _
  obtain ⟨hfr, hb1⟩ := H1.out
  obtain ⟨_, hcap, _, _, hgl⟩ := own_le hfr
  have hfr0 := own_below hfr hb0
  have hbw : Below w.heap.size w W0 := hb1.trans (hb0.mono hb1.size)
  have hcs : ∀ k (x : VL), vs.reverse[k]? = some x → W0.cell? ⟨g, k * 2, none⟩ = some (.int .i64 (modeOf x.1)) := by
    intro k x hx
    have e : (rAt l l.length).1.reverse.map (·.1) = vs.reverse.map (·.1) := by rw [List.map_reverse, List.map_reverse, HV.out.1]
    have hk : ((rAt l l.length).1.reverse.map (·.1))[k]? = some x.1 := by rw [e, List.getElem?_map, hx]; rfl
    rw [List.getElem?_map] at hk
    cases hp : (rAt l l.length).1.reverse[k]? with
    | none => rw [hp] at hk; cases hk
    | some y =>
      rw [hp] at hk
      simp at hk
      obtain ⟨d, p⟩ := y
      simp at hk
      subst hk
      exact own_cell hfr0 _ _ (fcells_at _ k _ p hp).1
  rw [hW0]
  clear hW0
  have hwo : w.heap.size ≤ w1.heap.size := hb1.size
  have HW := Lib.hid (And.intro hbw (And.intro hb1 hfr0))
  clear hfr hb1 hfr0 hbw hb0
  refine wpIn_rangeFunc_ownG rfl (by omega) (gf := 70) (lb := #[.pointer (some ⟨w1.heap.size + 1, 0, none⟩)]) rfl trivial (enters_of Tryd.func70 (by kernel_rfl) rfl)
    (last_stops (5 - 1) (w1.heap.size + 1) g c W0.heap.size (· = w1.heap.size) vs W0 (by omega) (Nat.le_refl _) (by omega) (by omega) (by omega) (by omega) bL.cell hcs (by omega) hcap) (fun h k => h.trans k) (fun W l o o' hl h1 h2 h3 => keepX_put W l o o' hl h1 h2 h3) (Below.refl _ _) (fun _ => rfl)
    (fun pre W => (∃ v, Boxed W w1.heap.size 78 v ∧ W.ownsRow W0.heap.size 5 1 v (outL pre).length (bvals (outL pre)) ∧ True) ∧ Below w.heap.size w W ∧ W0.heap.size ≤ W.heap.size)
    (fun _ _ _ => False)
    (OwnFrom.and (Own.from (holdsRow_own W0.heap.size w1.heap.size 78 5 1 (fun pre => (outL pre).length) (fun pre => bvals (outL pre)) (fun pre v => True)) _) (OwnFrom.and (ownFrom_below (Nat.le_refl _) (by omega)) (ownFrom_size _ _)))
    (fun _ _ _ _ _ hs _ _ => hs)
    ⟨⟨_, bO, World.ownsRow_nil _ _ _ _, trivial⟩, HW.out.1, Nat.le_refl _⟩
    (fun x => { tmps := #[.string ⟨l.toArray⟩, undef, .string ⟨#[]⟩, .slice (some ⟨g, 0, none⟩) vs.length c, .bool (rAt l l.length).2, .pointer (some ⟨w1.heap.size, 0, none⟩), .int .i64 (modeOf x.1),
      .tuple #[.slice (some ⟨g, 0, none⟩) vs.length c, .bool (rAt l l.length).2], .string ⟨l.toArray⟩, .tuple #[.slice (some ⟨g, 0, none⟩) vs.length c, .bool (rAt l l.length).2], .slice (some ⟨g, 0, none⟩) vs.length c, .bool (rAt l l.length).2,
      .slice (some ⟨g, 0, none⟩) vs.length c, .func (.func 70) #[] #[.pointer (some ⟨w1.heap.size + 1, 0, none⟩)], .int .i64 (modeOf x.1), undef, undef, undef, undef, undef, undef], defers := [] }) ?assign ?body ?done ?stop
  case assign =>
    intro l x W K hK
    gi_wp2
    exact hK
  case body =>
    rintro l pre x W ⟨⟨v, hv, hrow, _⟩, hB, hS⟩ hlt
    have hc := hv.cell
    have hf := hv.frozen
    gi_wp2_with fail
    have hlb : (outL pre).length ≤ 2 * pre.length := outL_len pre
    have hsz : (ByteArray.mk (cloL x.1).toArray).size ≤ 2 := cloL_len x.1
    refine wpIn_region_any hmix ?_
    refine wpAnyIn_ready (rs := [0, 1]) (by kernel_rfl) (by simp) ?_
    refine AllReadyIn.cons rfl (fun K hK => ?_) (AllReadyIn.cons rfl (fun K hK => ?_) AllReadyIn.nil)
    · go_simp
      refine hK _ _ ?_
      clear hK K
      refine wpAnyIn_ready (rs := [1]) (by kernel_rfl) (by simp) ?_
      refine AllReadyIn.cons rfl (fun K hK => ?_) AllReadyIn.nil
      go_simp
      refine hK _ _ ?_
      clear hK K
      refine wpAnyIn_ready (rs := [2]) (by kernel_rfl) (by simp) ?_
      refine AllReadyIn.cons rfl (fun K hK => ?_) AllReadyIn.nil
      go_simp
      refine ⟨trivial, (in_round (closer_m x.1 _ x.2)).mono ?_⟩
      rintro e w2 ⟨rfl, rfl⟩
      refine hK _ _ ?_
      clear hK K
      refine wpAnyIn_ready (rs := [3]) (by kernel_rfl) (by simp) ?_
      refine AllReadyIn.cons rfl (fun K hK => ?_) AllReadyIn.nil
      refine stepIn_append_str rfl (.tmp 15) (.tmp 17) 78 9 rfl W0.heap.size 5 i0 Tryd.underlying78 Tryd.underlying9 hi hz0 hz1 hz2 v _ _ rfl (own_drew hrow) ⟨(cloL x.1).toArray⟩ rfl (by unfold maxLen; omega) (by omega) hS ?_
      intro v3 w3 hown3 hg3
      have hW1 : Below W.heap.size W W.drew := below_drewN' (Below.refl _ _) 1
      have hv3 := box_grown hv (by decide) hrow hW1 hg3
      have hc3 := hv3.cell
      have hf3 := hv3.frozen
      obtain ⟨A3, n3, c3, rfl⟩ := own_form' hown3
      have H3 := Lib.hid (box_append (M := W0.heap.size) hv (by decide) hrow hS (by omega) hW1 hg3 hown3)
      clear hown3 hg3 hv3 hW1
      refine hK _ _ ?_
      clear hK K
      refine wpAnyIn_ready (rs := [4]) (by kernel_rfl) (by simp) ?_
      refine AllReadyIn.cons rfl (fun K hK => ?_) AllReadyIn.nil
      go_simp
      refine hK _ _ ?_
      clear hK K
      refine wpAnyIn_done (by kernel_rfl) ?_ _
      gi_wp2
      obtain ⟨q1, q2, q3, q4, q5, q6⟩ := H3.out
      exact ⟨q1, q2, ⟨_, q3, closing_row q4, trivial⟩, hB.trans (q5 _ hwo), q6⟩
    · go_simp
      refine hK _ _ ?_
      clear hK K
      refine wpAnyIn_ready (rs := [0, 2]) (by kernel_rfl) (by simp) ?_
      refine AllReadyIn.cons rfl (fun K hK => ?_) (AllReadyIn.cons rfl (fun K hK => ?_) AllReadyIn.nil)
      · go_simp
        refine hK _ _ ?_
        clear hK K
        refine wpAnyIn_ready (rs := [2]) (by kernel_rfl) (by simp) ?_
        refine AllReadyIn.cons rfl (fun K hK => ?_) AllReadyIn.nil
        go_simp
        refine ⟨trivial, (in_round (closer_m x.1 _ x.2)).mono ?_⟩
        rintro e w2 ⟨rfl, rfl⟩
        refine hK _ _ ?_
        clear hK K
        refine wpAnyIn_ready (rs := [3]) (by kernel_rfl) (by simp) ?_
        refine AllReadyIn.cons rfl (fun K hK => ?_) AllReadyIn.nil
        refine stepIn_append_str rfl (.tmp 15) (.tmp 17) 78 9 rfl W0.heap.size 5 i0 Tryd.underlying78 Tryd.underlying9 hi hz0 hz1 hz2 v _ _ rfl (own_drew hrow) ⟨(cloL x.1).toArray⟩ rfl (by unfold maxLen; omega) (by omega) hS ?_
        intro v3 w3 hown3 hg3
        have hW1 : Below W.heap.size W W.drew := below_drewN' (Below.refl _ _) 1
        have hv3 := box_grown hv (by decide) hrow hW1 hg3
        have hc3 := hv3.cell
        have hf3 := hv3.frozen
        obtain ⟨A3, n3, c3, rfl⟩ := own_form' hown3
        have H3 := Lib.hid (box_append (M := W0.heap.size) hv (by decide) hrow hS (by omega) hW1 hg3 hown3)
        clear hown3 hg3 hv3 hW1
        refine hK _ _ ?_
        clear hK K
        refine wpAnyIn_ready (rs := [4]) (by kernel_rfl) (by simp) ?_
        refine AllReadyIn.cons rfl (fun K hK => ?_) AllReadyIn.nil
        go_simp
        refine hK _ _ ?_
        clear hK K
        refine wpAnyIn_done (by kernel_rfl) ?_ _
        gi_wp2
        obtain ⟨q1, q2, q3, q4, q5, q6⟩ := H3.out
        exact ⟨q1, q2, ⟨_, q3, closing_row q4, trivial⟩, hB.trans (q5 _ hwo), q6⟩
      · go_simp
        refine ⟨trivial, (in_round (closer_m x.1 _ x.2)).mono ?_⟩
        rintro e w2 ⟨rfl, rfl⟩
        refine hK _ _ ?_
        clear hK K
        refine wpAnyIn_ready (rs := [0]) (by kernel_rfl) (by simp) ?_
        refine AllReadyIn.cons rfl (fun K hK => ?_) AllReadyIn.nil
        go_simp
        refine hK _ _ ?_
        clear hK K
        refine wpAnyIn_ready (rs := [3]) (by kernel_rfl) (by simp) ?_
        refine AllReadyIn.cons rfl (fun K hK => ?_) AllReadyIn.nil
        refine stepIn_append_str rfl (.tmp 15) (.tmp 17) 78 9 rfl W0.heap.size 5 i0 Tryd.underlying78 Tryd.underlying9 hi hz0 hz1 hz2 v _ _ rfl (own_drew hrow) ⟨(cloL x.1).toArray⟩ rfl (by unfold maxLen; omega) (by omega) hS ?_
        intro v3 w3 hown3 hg3
        have hW1 : Below W.heap.size W W.drew := below_drewN' (Below.refl _ _) 1
        have hv3 := box_grown hv (by decide) hrow hW1 hg3
        have hc3 := hv3.cell
        have hf3 := hv3.frozen
        obtain ⟨A3, n3, c3, rfl⟩ := own_form' hown3
        have H3 := Lib.hid (box_append (M := W0.heap.size) hv (by decide) hrow hS (by omega) hW1 hg3 hown3)
        clear hown3 hg3 hv3 hW1
        refine hK _ _ ?_
        clear hK K
        refine wpAnyIn_ready (rs := [4]) (by kernel_rfl) (by simp) ?_
        refine AllReadyIn.cons rfl (fun K hK => ?_) AllReadyIn.nil
        go_simp
        refine hK _ _ ?_
        clear hK K
        refine wpAnyIn_done (by kernel_rfl) ?_ _
        gi_wp2
        obtain ⟨q1, q2, q3, q4, q5, q6⟩ := H3.out
        exact ⟨q1, q2, ⟨_, q3, closing_row q4, trivial⟩, hB.trans (q5 _ hwo), q6⟩
  case done =>
    rintro D ys W hD rfl ⟨⟨v, hv, hrow, hnil⟩, hB, hS⟩ hK
    have hc := hv.cell
    have hbk := belowK_b (w := w) (Nat.le_refl _) W D (.deferred (some [])) (.deferred none) (by omega) hK rfl rfl
    have hcv := closing_back hrow
    obtain ⟨A, n, c, rfl⟩ := own_form' hrow
    have HD := Lib.hid (And.intro hB hbk)
    clear hB hbk hrow
    gi_wp2
    refine ⟨by simp, .inl ⟨_, _, rfl, run_takeDeferred hK, ?_⟩⟩
    refine ⟨_, results_tmp rfl _ _ _, ?_, HD.out.1.trans HD.out.2⟩
    rw [HV.out.2.2]
    rfl
  case stop =>
    rintro D c pre W _ _ h _
    exact h.elim
end Go.Proofs.YtihmjejcikpibaaDoor
