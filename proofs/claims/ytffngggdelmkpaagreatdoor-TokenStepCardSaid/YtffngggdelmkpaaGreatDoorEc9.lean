/- Package token: each, as a sequence: the tokens of a text, each with the lexing behind it. -/
import Derived.Test.YtffngggdelmkpaaGreatDoorSp9
import Derived.Test.YtffngggdelmkpaaGreatDoorRfy
namespace Go.Proofs.YtffngggdelmkpaaGreatDoor
open Go.RowKit
set_option linter.unusedVariables false
set_option linter.unusedSimpArgs false
set_option maxRecDepth 100000
attribute [local go_sem] Oper.semAt_some
/-- The tokens from a place on, each with the lexing behind it. -/
def pairF (l : List UInt8) : Nat → Nat → Lx → List (Tk × Lx)
  | 0, _, _ => []
  | m + 1, x, X => if x < l.length then stepL l x X :: pairF l m (stepL l x X).1.to (stepL l x X).2 else []
def pairA (l : List UInt8) (x : Nat) (X : Lx) : List (Tk × Lx) := pairF l (l.length + 1 - x) x X
theorem pairF_fuel (l : List UInt8) : ∀ (m m' x : Nat) (X : Lx), l.length < m + x → l.length < m' + x → pairF l m x X = pairF l m' x X
  | 0, m', x, X, h, h' => by
    cases m' with
    | zero => rfl
    | succ m' => unfold pairF; rw [if_neg (by omega)]
  | m + 1, 0, x, X, h, h' => by unfold pairF; rw [if_neg (by omega)]
  | m + 1, m' + 1, x, X, h, h' => by
    unfold pairF
    by_cases hx : x < l.length
    · have := stepL_to l x hx X
      rw [if_pos hx, if_pos hx, pairF_fuel l m m' _ _ (by omega) (by omega)]
    · rw [if_neg hx, if_neg hx]
theorem pairA_eq (l : List UInt8) (x : Nat) (X : Lx) : pairA l x X = if x < l.length then stepL l x X :: pairA l (stepL l x X).1.to (stepL l x X).2 else [] := by
  unfold pairA
  by_cases hx : x < l.length
  · obtain ⟨m, hm⟩ : ∃ m, l.length + 1 - x = m + 1 := ⟨l.length - x, by omega⟩
    have := stepL_to l x hx X
    rw [hm]
    show (if x < l.length then _ else _) = _
    rw [if_pos hx, if_pos hx, pairF_fuel l m (l.length + 1 - (stepL l x X).1.to) (stepL l x X).1.to (stepL l x X).2 (by omega) (by omega)]
  · rw [if_neg hx]
    by_cases h0 : l.length + 1 - x = 0
    · rw [h0]; rfl
    · obtain ⟨m, hm⟩ : ∃ m, l.length + 1 - x = m + 1 := ⟨l.length + 1 - x - 1, by omega⟩
      rw [hm]
      show (if x < l.length then _ else _) = _
      rw [if_neg hx]
theorem step_pd (l : List UInt8) (x : Nat) (X : Lx) : (stepL l x X).2.pd.length ≤ X.pd.length + 1 := by
  unfold stepL
  split
  · rename_i d r hb hp
    unfold docL
    split
    · rw [hp]; simp; omega
    · show X.pd.length ≤ _; omega
  · show (behindL _ _ X).pd.length ≤ _
    unfold behindL
    repeat' split
    all_goals simp
/-- What is handed to yield. -/
structure TV where
  t : Tk
  X : Lx
  v : Value
abbrev encT (x : TV) : Array Value := #[.agg #[.int .i64 (x.t.kd : Int), .int .i64 (x.t.fr : Int), .int .i64 (x.t.to : Int), .bool x.t.op], .agg #[.int .i64 x.X.aw, x.v, .bool x.X.bd]]
def prs (xs : List TV) : List (Tk × Lx) := xs.map fun x => (x.t, x.X)
def St9 (l : List UInt8) (pre : List TV) : Prop := prs pre <+: pairA l 0 lx0
def Sx9 (l : List UInt8) (pre : List TV) : Prop := prs pre = pairA l 0 lx0
def Dy9 (x : TV) (W : World) : Prop := Rt W 75 2 x.v x.X.pd.length (dcls x.X.pd)
/-- The types of what the iterator writes between two rounds. -/
abbrev TI : List TypeId := [33, 26]
/-- The types of what a consumer writes. -/
abbrev TL : List TypeId := [33, 23, 26]
theorem Rt.kc {T : List TypeId} {w w' : World} {e : TypeId} {sz n : Nat} {v : Value} {xs : List Value} (h : Rt w e sz v n xs) (hk : KC T w w') (he : e ∉ T) : Rt w' e sz v n xs := by
  obtain ⟨h1, A, c, h2, h3, h4, h5, h6⟩ := h
  refine ⟨h1, A, c, h2, h3, h4, h5, fun hn => ?_⟩
  obtain ⟨g, o, cur, fr, ha, hg, hc⟩ := h6 hn
  have hg' := hk.same g cur e fr hg he
  refine ⟨g, o, cur, fr, ha, hg', fun j u hj => ?_⟩
  rw [cell_of_row w' g _ cur e fr hg', ← cell_of_row w g _ cur e fr hg]
  exact hc j u hj
theorem fin_tx {Xs : Nat → Prop} {wo w2 : World} {B1 B2 : Nat} {t1 t2 : TypeId} {u0 u1 u2 u3 z0 z1 z2 : Value} (a0 a1 a2 a3 b0 b1 b2 : Value) (k1 : Bk w2 B1 t1 #[u0, u1, u2, u3]) (k2 : Bk w2 B2 t2 #[z0, z1, z2]) (hne : B1 ≠ B2) (hx : XG Xs wo w2) (h1 : Xs B1) (h2 : Xs B2) (T : List TypeId) (hk : KC T wo w2) (ht1 : t1 ∈ T) (ht2 : t2 ∈ T) :
    ∀ W5, W5 = ((((((w2.setCell ⟨B1, 0, none⟩ a0).setCell ⟨B1, 1, none⟩ a1).setCell ⟨B1, 2, none⟩ a2).setCell ⟨B1, 3, none⟩ a3).setCell ⟨B2, 0, none⟩ b0).setCell ⟨B2, 1, none⟩ b1).setCell ⟨B2, 2, none⟩ b2 →
      Bk W5 B1 t1 #[a0, a1, a2, a3] ∧ Bk W5 B2 t2 #[b0, b1, b2] ∧ XG Xs wo W5 ∧ KC T wo W5 ∧ (∀ {e : TypeId} {n : Nat} {v : Value} {xs : List Value}, Rt w2 e 2 v n xs → e ≠ t1 → e ≠ t2 → Rt W5 e 2 v n xs) ∧ (∀ g t cs, Bk w2 g t cs → g ≠ B1 → g ≠ B2 → Bk W5 g t cs) := by
  rintro W5 rfl
  have hne' : B2 ≠ B1 := fun h => hne h.symm
  have e0 := (((k2.far (p := ⟨B1, 0, none⟩) hne' a0).far (p := ⟨B1, 1, none⟩) hne' a1).far (p := ⟨B1, 2, none⟩) hne' a2).far (p := ⟨B1, 3, none⟩) hne' a3
  have d0 := (((k1.set 0 a0).set 1 a1).set 2 a2)
  refine ⟨((((((k1.set 0 a0).set 1 a1).set 2 a2).set 3 a3).far (p := ⟨B2, 0, none⟩) hne b0).far (p := ⟨B2, 1, none⟩) hne b1).far (p := ⟨B2, 2, none⟩) hne b2, ?_, ?_, ?_, ?_, ?_⟩
  · exact (((((((k2.far (p := ⟨B1, 0, none⟩) hne' a0).far (p := ⟨B1, 1, none⟩) hne' a1).far (p := ⟨B1, 2, none⟩) hne' a2).far (p := ⟨B1, 3, none⟩) hne' a3).set 0 b0).set 1 b1).set 2 b2)
  · exact ((((((hx.set (.inl h1) 0 _).set (.inl h1) 1 _).set (.inl h1) 2 _).set (.inl h1) 3 _).set (.inl h2) 0 _).set (.inl h2) 1 _).set (.inl h2) 2 _
  · exact ((((((hk.set k1 ht1 0 a0).set (k1.set 0 a0) ht1 1 a1).set ((k1.set 0 a0).set 1 a1) ht1 2 a2).set d0 ht1 3 a3).set e0 ht2 0 b0).set (e0.set 0 b0) ht2 1 b1).set ((e0.set 0 b0).set 1 b1) ht2 2 b2
  · intro e n v xs hr g1 g2
    have ka := ((((k2.far (p := ⟨B1, 0, none⟩) hne' a0).far (p := ⟨B1, 1, none⟩) hne' a1).far (p := ⟨B1, 2, none⟩) hne' a2).far (p := ⟨B1, 3, none⟩) hne' a3)
    have ha := hr.keep (grown_set (grown_set (grown_set (grown_set (grown_refl w2 (some B1)) 0 a0) 1 a1) 2 a2) 3 a3) (k1.row g1)
    exact ha.keep (grown_set (grown_set (grown_set (grown_refl _ (some B2)) 0 b0) 1 b1) 2 b2) (ka.row g2)
  · intro g t cs h n1 n2
    exact ((((((h.far (p := ⟨B1, 0, none⟩) n1 _).far (p := ⟨B1, 1, none⟩) n1 _).far (p := ⟨B1, 2, none⟩) n1 _).far (p := ⟨B1, 3, none⟩) n1 _).far (p := ⟨B2, 0, none⟩) n2 _).far (p := ⟨B2, 1, none⟩) n2 _).far (p := ⟨B2, 2, none⟩) n2 _
set_option maxHeartbeats 4000000 in
theorem each9_in (n l' Bn : Nat) (l : List UInt8) (J Jx : (Nat → Prop) → List TV → World → Prop) (hl : l.length ≤ 900) (hF : FitsT TI J)
    (hY : ∀ X pre x W, J X pre W → St9 l (pre ++ [x]) → Dy9 x W → ∀ m, YieldAt Fence.wide m Tryz.prog l' (encT x) W fun e W' =>
      (e = .returned (.bool true) ∧ J X (pre ++ [x]) W' ∧ KC TL W W' ∧ ∀ k, X k → W'.heap[k]? = W.heap[k]?) ∨ (e = .returned (.bool false) ∧ Jx X (pre ++ [x]) W' ∧ KC TL W W' ∧ ∀ k, X k → W'.heap[k]? = W.heap[k]?))
    (W : World) (hBn : Bk W Bn 9 #[.string ⟨l.toArray⟩]) (h0 : J (fun _ => False) [] W) :
    CallsIn Fence.wide n Tryz.prog 59 #[.func (.yield l') #[] #[], .pointer (some ⟨Bn, 0, none⟩)] W fun e W' => (∃ v, e = .returned v) ∧
      ((∃ ys X, Sx9 l ys ∧ J X ys W') ∨ (∃ pre X, True ∧ Jx X pre W')) := by
  have HK := Lib.hid (And.intro hF (And.intro hY (And.intro hBn h0)))
  have y0 : W.cell? ⟨Bn, 0, none⟩ = some (.string ⟨l.toArray⟩) := by rw [hBn.cell]; rfl
  have hlt := hBn.lt
  clear hF hY hBn h0
  refine callsIn_of_wp Tryz.func59 rfl trivial ?_ rfl
  simp only [Tryz.ntmps59, List.size_toArray, List.length_cons, List.length_nil, Nat.reduceAdd, Nat.reduceSub, Array.replicate_succ, Array.replicate_zero, List.push_toArray, List.append_toArray, List.nil_append, List.cons_append]
  gi_wp2_with fail
  gi_loopw [5] (fun i wr => ∃ (x : Nat) (pre : List TV) (X : Lx) (v : Value) (Xs : Nat → Prop) (a b c d : Value), x ≤ l.length ∧ i = .int .i64 x ∧ prs pre ++ pairA l x X = pairA l 0 lx0 ∧ X.pd.length ≤ x ∧ J Xs pre wr ∧ Xs W.heap.size ∧ Xs (W.heap.size + 1) ∧
      Bk wr W.heap.size 26 #[.int .i64 X.aw, v, .bool X.bd] ∧ Bk wr (W.heap.size + 1) 33 #[a, b, c, d] ∧ Rt wr 75 2 v X.pd.length (dcls X.pd) ∧ Bk wr Bn 9 #[.string ⟨l.toArray⟩]) (fun i _ => l.length - (intOf i).toNat)
  case atStart =>
    have hb : Below W.heap.size W ((W.alloc (.cells #[.int .i64 0, .slice none 0 0, .bool false] 26)).alloc (.cells #[.int .i64 0, .int .i64 0, .int .i64 0, .bool false] 33)) := ((Below.refl _ W).alloc (Nat.le_refl _) _).alloc (by simp) _
    refine ⟨0, [], lx0, .slice none 0 0, xNew (fun _ => False) W _, _, _, _, _, Nat.zero_le _, rfl, rfl, Nat.le_refl _, HK.out.1 _ _ _ _ HK.out.2.2.2 (XG.of_below hb) (KC.of_below hb), .inr ⟨Nat.le_refl _, by simp <;> omega⟩, .inr ⟨by omega, by simp⟩, (Bk.new W _ _).alloc _, bk_second W _ _ _ _, Rt.nil _ _ _, HK.out.2.2.1.below hb hlt⟩
  case round =>
    obtain ⟨x, pre, X, v, Xs, a, b, c, d, hx, rfl, hpr, hpd, hJ, hX0, hX1, k0, k1, hr, kB⟩ := hrel
    obtain ⟨A, cp, rfl⟩ := hr.form
    have y0 : wr.cell? ⟨Bn, 0, none⟩ = some (.string ⟨l.toArray⟩) := by rw [kB.cell]; rfl
    obtain ⟨p0, p1, p2, p3, p4, p5⟩ := k0.three
    obtain ⟨q0, q1, q2, q3, q4, q5, q6, q7⟩ := k1.four
    by_cases hxl : x < l.length
    · have u1 : (x : Int) < (l.length : Int) := by omega
      have hpd2 : X.pd.length ≤ 10000 := by omega
      have HR := Lib.hid (And.intro hpr (And.intro hpd (And.intro hJ (And.intro hX0 (And.intro hX1 (And.intro k0 (And.intro k1 (And.intro hr kB))))))))
      have hB0 := k0.lt
      have hB1 := k1.lt
      have hBn := kB.lt
      obtain ⟨S, hS⟩ : ∃ S, S = stepL l x X := ⟨_, rfl⟩
      have hstep : Calls Tryz.prog 17 #[.string ⟨l.toArray⟩, .int .i64 (x : Int), .agg #[.int .i64 X.aw, .slice A X.pd.length cp, .bool X.bd]] wr fun e w' => ∃ v, e = .returned (.tuple #[tkv S.1, v]) ∧ LxP w' S.2 v ∧ Below wr.heap.size wr w' := by
        rw [hS]; exact step9_m l x X A _ cp wr hl hxl rfl hr hpd2
      have HS := Lib.hid (And.intro hS hstep)
      clear hpr hpd hJ hX0 hX1 k0 k1 hr kB hS hstep
      obtain ⟨wo, rfl⟩ : ∃ wo : World, wo = wr := ⟨_, rfl⟩
      gi_wp2_with fail
      rename_i K1 hK1 K0 hK0
      have HKK := Lib.hid hK0
      have HK1 := Lib.hid hK1
      clear hK0 hK1
      refine ⟨trivial, fun h => by simp [Fence.wide] at h, ?_⟩
      refine (callsIn_wide.2 HS.out.2).mono ?_
      rintro e w2 ⟨v2, rfl, ⟨v1, rfl, hr2⟩, hb2⟩
      obtain ⟨A1, c1, rfl⟩ := hr2.form
      unfold tkv lxv
      have k0 := HR.out.2.2.2.2.2.1.below hb2 hB0
      have k1 := HR.out.2.2.2.2.2.2.1.below hb2 hB1
      obtain ⟨p0, p1, p2, p3, p4, p5⟩ := k0.three
      obtain ⟨q0, q1, q2, q3, q4, q5, q6, q7⟩ := k1.four
      have H2 := Lib.hid (And.intro hr2 (And.intro hb2 (And.intro k0 k1)))
      clear hr2 hb2 k0 k1
      gi_wp2_with fail
      refine HKK.out _ _ ?_
      gi_wp2_with fail
      have hS := HS.out.1
      obtain ⟨m1, m2, mx, mkc, mr, mb⟩ := fin_tx (Xs := Xs) (wo := wo) (.int .i64 (S.1.kd : Int)) (.int .i64 (S.1.fr : Int)) (.int .i64 (S.1.to : Int)) (.bool S.1.op) (.int .i64 S.2.aw) (.slice A1 S.2.pd.length c1) (.bool S.2.bd) H2.out.2.2.2 H2.out.2.2.1 (by omega) (XG.of_below H2.out.2.1) HR.out.2.2.2.2.1 HR.out.2.2.2.1 TI (KC.of_below H2.out.2.1) (by decide) (by decide) _ rfl
      have mrt := mr H2.out.1 (by decide) (by decide)
      have mB := mb Bn _ _ (HR.out.2.2.2.2.2.2.2.2.below H2.out.2.1 hBn) (by omega) (by omega)
      generalize World.setCell _ _ _ = W5 at m1 m2 mx mkc mr mb mrt mB ⊢
      have mJ := HK.out.1 _ _ _ _ HR.out.2.2.1 mx mkc
      have hpa : prs pre ++ S :: pairA l S.1.to S.2 = pairA l 0 lx0 := by
        rw [hS, ← HR.out.1, pairA_eq l x X, if_pos hxl]
      obtain ⟨fn, tmps, assign, body, hy, hR⟩ := HK.out.2.1 _ pre ⟨S.1, S.2, .slice A1 S.2.pd.length c1⟩ W5 mJ (by
        unfold St9; rw [← hpa]; exact ⟨pairA l S.1.to S.2, by simp [prs]⟩) mrt (n - 1)
      have hR2 := Lib.hid hR
      clear hR
      simp only [encT] at hy
      have hy2 := Lib.hid hy
      clear hy
      have hto := stepL_to l x hxl X
      have hpdS : S.2.pd.length ≤ S.1.to := by
        have := step_pd l x X
        rw [← hS] at this hto
        have := HR.out.2.1
        omega
      rw [← hS] at hto
      obtain ⟨p0, p1, p2, p3, p4, p5⟩ := m2.three
      obtain ⟨q0, q1, q2, q3, q4, q5, q6, q7⟩ := m1.four
      have H5 := Lib.hid (And.intro m1 (And.intro m2 (And.intro mrt mB)))
      clear m1 m2 mx mkc mr mb mrt mB mJ
      have HP := Lib.hid (And.intro hpa (And.intro hto hpdS))
      clear hS hpa hpdS hto
      refine HK1.out _ _ ?_
      gi_wp2_with fail
      rw [hy2.out]
      gi_wp2_with fail
      refine ⟨fun h => by simp [Fence.wide] at h, ?_⟩
      refine hR2.out.mono ?_
      rintro e W3 (⟨rfl, hJ3, hk3, hx3⟩ | ⟨rfl, hJx3, hk3, hx3⟩)
      · have k1 : Bk W3 (W.heap.size + 1) _ _ := (hx3 _ (.inl HR.out.2.2.2.2.1)).trans H5.out.1
        have k0 : Bk W3 W.heap.size _ _ := (hx3 _ (.inl HR.out.2.2.2.1)).trans H5.out.2.1
        have kr := H5.out.2.2.1.kc hk3 (by decide)
        have kB : Bk W3 Bn _ _ := hk3.same _ _ _ _ H5.out.2.2.2 (by decide)
        obtain ⟨p0, p1, p2, p3, p4, p5⟩ := k0.three
        obtain ⟨q0, q1, q2, q3, q4, q5, q6, q7⟩ := k1.four
        have H3 := Lib.hid (And.intro hJ3 (And.intro k0 (And.intro k1 (And.intro kr kB))))
        clear hJ3 hk3 hx3 k0 k1 kr kB
        gi_wp2
        have ht := HP.out.2.1
        refine ⟨⟨S.1.to, _, S.2, _, _, _, _, _, _, ht.2.2.1, rfl, ?_, HP.out.2.2, H3.out.1, .inl HR.out.2.2.2.1, .inl HR.out.2.2.2.2.1, H3.out.2.1, H3.out.2.2.1, H3.out.2.2.2.1, H3.out.2.2.2.2⟩, by simp [intOf]; omega⟩
        rw [← HP.out.1]; simp [prs]
      · have H3 := Lib.hid hJx3
        clear hJx3 hk3 hx3
        gi_wp2
        refine bodyPost_ret (results_none rfl _ _ _) rfl ?_
        exact ⟨⟨_, rfl⟩, .inr ⟨_, _, trivial, H3.out⟩⟩
    · have HR := Lib.hid (And.intro hpr hJ)
      have u1 : ¬ (x : Int) < (l.length : Int) := by omega
      clear hpr hpd hJ hX0 hX1 k0 k1 hr kB
      gi_wp2
      go_end0
      refine ⟨⟨_, rfl⟩, .inl ⟨pre, ?_, Xs, HR.out.2⟩⟩
      have := HR.out.1
      rw [pairA_eq, if_neg hxl, List.append_nil] at this
      exact this
theorem each9_p (l : List UInt8) (w : World) :
    Calls Tryz.prog 37 #[.string ⟨l.toArray⟩] w fun e w' => e = .returned (.func (.func 59) #[] #[.pointer (some ⟨w.heap.size, 0, none⟩)]) ∧ w' = w.alloc (.cells #[.string ⟨l.toArray⟩] 9) := by
  go_enter Tryz.func37, Tryz.ntmps37
  go_wp2
  go_ret
  exact ⟨rfl, rfl⟩
theorem each9_y (Bn : Nat) (l : List UInt8) (w : World) (hl : l.length ≤ 900) (hBn : Bk w Bn 9 #[.string ⟨l.toArray⟩]) :
    SeqY TI Tryz.prog 59 #[.pointer (some ⟨Bn, 0, none⟩)] encT (KC TL) (Sx9 l) (fun _ => True) (St9 l) Dy9 w := fun n l' J Jx W hW hF hFx hY h0 =>
  each9_in n l' Bn l J Jx hl hF hY W (hBn.below hW hBn.lt) h0
end Go.Proofs.YtffngggdelmkpaaGreatDoor
