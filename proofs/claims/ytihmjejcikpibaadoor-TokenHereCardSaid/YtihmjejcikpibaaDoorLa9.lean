/- A token hangs on two bytes behind it, at most: of two texts with one beginning the tokens that end two bytes ahead of its end are the same. No program is in sight. -/
import Derived.Test.YtihmjejcikpibaaDoorPl9
namespace Go.Proofs.YtihmjejcikpibaaDoor
set_option linter.unusedVariables false
set_option linter.unusedSimpArgs false
set_option maxRecDepth 100000
theorem sub_take' (l : List UInt8) (x n : Nat) (h : x ≤ l.length) : sub l x (x + n) = (l.drop x).take n := by unfold sub; rw [List.drop_take]; congr 1; omega
/-! Runs of bytes. -/
theorem getD_drop (l : List UInt8) (x i : Nat) : (l.drop x).getD i 0 = l.getD (x + i) 0 := by simp [List.getD_eq_getElem?_getD]
theorem tw_stop (p : UInt8 → Bool) : ∀ (m : List UInt8), (m.takeWhile p).length < m.length → p (m.getD (m.takeWhile p).length 0) = false
  | [], h => by simp at h
  | b :: m, h => by
    by_cases hb : p b = true
    · rw [List.takeWhile_cons, if_pos hb] at h ⊢
      exact tw_stop p m (by simpa using h)
    · rw [List.takeWhile_cons, if_neg hb]
      simpa using hb
theorem tw_uniq (p : UInt8 → Bool) : ∀ (m : List UInt8) (k : Nat), (∀ i, i < k → p (m.getD i 0) = true) → k < m.length → p (m.getD k 0) = false → (m.takeWhile p).length = k
  | [], k, _, h, _ => by simp at h
  | b :: m, 0, _, _, h => by
    have hb : p b = false := h
    rw [List.takeWhile_cons, if_neg (by rw [hb]; decide)]
    rfl
  | b :: m, k + 1, h1, h2, h3 => by
    have hb : p b = true := h1 0 (by omega)
    rw [List.takeWhile_cons, if_pos hb, List.length_cons, tw_uniq p m k (fun i hi => h1 (i + 1) (by omega)) (by simpa using h2) h3]
theorem span_all (p : UInt8 → Bool) (l : List UInt8) (x i : Nat) (h : i < spanL p l x) : p (l.getD (x + i) 0) = true := by
  rw [← getD_drop]; exact tw_byte p (l.drop x) i h
theorem span_stop (p : UInt8 → Bool) (l : List UInt8) (x : Nat) (h : x + spanL p l x < l.length) : p (l.getD (x + spanL p l x) 0) = false := by
  rw [← getD_drop]
  exact tw_stop p (l.drop x) (by have : spanL p l x = ((l.drop x).takeWhile p).length := rfl; rw [List.length_drop]; omega)
theorem span_uniq (p : UInt8 → Bool) (l : List UInt8) (x k : Nat) (h1 : ∀ i, i < k → p (l.getD (x + i) 0) = true) (h2 : x + k < l.length) (h3 : p (l.getD (x + k) 0) = false) : spanL p l x = k :=
  tw_uniq p (l.drop x) k (fun i hi => by rw [getD_drop]; exact h1 i hi) (by rw [List.length_drop]; omega) (by rw [getD_drop]; exact h3)
theorem lineN_span (l : List UInt8) (x : Nat) : lineN l x = x + spanL (fun c => c.toNat != 10) l x := rfl
/-! Two texts with one beginning. -/
structure Ag (n : Nat) (l l' : List UInt8) : Prop where
  h : n ≤ l.length
  h' : n ≤ l'.length
  e : ∀ i, i < n → l.getD i 0 = l'.getD i 0
theorem Ag.symm {n : Nat} {l l' : List UInt8} (a : Ag n l l') : Ag n l' l := ⟨a.h', a.h, fun i hi => (a.e i hi).symm⟩
theorem Ag.app (a b c : List UInt8) : Ag a.length (a ++ b) (a ++ c) := ⟨by simp, by simp, fun i hi => by rw [List.getD_eq_getElem?_getD, List.getD_eq_getElem?_getD, List.getElem?_append_left hi, List.getElem?_append_left hi]⟩
theorem Ag.take {n : Nat} {l l' : List UInt8} (a : Ag n l l') {y : Nat} (hy : y ≤ n) : l.take y = l'.take y := by
  refine List.ext_getElem? fun i => ?_
  rw [List.getElem?_take, List.getElem?_take]
  split
  · rename_i hi
    have := a.e i (by omega)
    rw [List.getD_eq_getElem?_getD, List.getD_eq_getElem?_getD, List.getElem?_eq_getElem (by have := a.h; omega), List.getElem?_eq_getElem (by have := a.h'; omega)] at this
    rw [List.getElem?_eq_getElem (by have := a.h; omega), List.getElem?_eq_getElem (by have := a.h'; omega)]
    exact congrArg some this
  · rfl
theorem Ag.sub {n : Nat} {l l' : List UInt8} (a : Ag n l l') {x y : Nat} (hy : y ≤ n) : sub l x y = sub l' x y := by unfold Go.Proofs.YtihmjejcikpibaaDoor.sub; rw [a.take hy]
theorem Ag.span {n : Nat} {l l' : List UInt8} (a : Ag n l l') {p : UInt8 → Bool} {x : Nat} (h : x + spanL p l x < n) : spanL p l' x = spanL p l x := by
  have h1 := a.h
  have h2 := a.h'
  refine span_uniq p l' x _ (fun i hi => ?_) (by omega) ?_
  · rw [← a.e _ (by omega)]; exact span_all p l x i hi
  · rw [← a.e _ (by omega)]; exact span_stop p l x (by omega)
theorem Ag.line {n : Nat} {l l' : List UInt8} (a : Ag n l l') {x : Nat} (h : lineN l x < n) : lineN l' x = lineN l x := by
  rw [lineN_span, lineN_span] at *
  rw [a.span h]
theorem Ag.here {n : Nat} {l l' : List UInt8} (a : Ag n l l') (w : List UInt8) (t : Bool) : ∀ (m x : Nat), l.length - x = m → x < l.length → (hereL l x w t).1 < n → hereL l' x w t = hereL l x w t := by
  intro m
  induction m using Nat.strongRecOn with
  | _ m ih =>
    intro x hm hx h
    have h1 := a.h
    have h2 := a.h'
    have hle := hereL_le l w t _ x rfl hx
    have hle2 := lineE_le l x hx
    have hln := lineN_le l x (by omega)
    have hnext : lineE l x ≤ (hereL l x w t).1 := by
      rw [hereL_eq, if_pos hx]
      split
      · exact Nat.le_refl _
      · by_cases hy : lineE l x < l.length
        · exact Nat.le_of_lt (hereL_le l w t _ (lineE l x) rfl hy).1
        · rw [hereL_eq, if_neg hy]; exact Nat.le_refl _
    have hlt : lineN l x < l.length := by
      refine Nat.lt_of_not_le fun hh => ?_
      have : lineE l x = lineN l x := by unfold lineE; rw [if_neg (by omega)]
      omega
    have hE : lineE l x = lineN l x + 1 := by unfold lineE; rw [if_pos hlt]
    have hL := a.line (x := x) (by omega)
    have hE' : lineE l' x = lineE l x := by unfold lineE; rw [hL, if_pos hlt, if_pos (by omega)]
    have h0 := h
    have hxl : x < l'.length := by omega
    have hsub := a.sub (x := x) (y := lineN l x) (by omega)
    rw [hereL_eq] at h
    rw [hereL_eq l' x, hereL_eq l x, if_pos hx, if_pos hxl, hL, hE', ← hsub]
    rw [if_pos hx] at h
    split
    · rfl
    · rename_i hw
      rw [if_neg hw] at h
      exact ih (l.length - lineE l x) (by omega) (lineE l x) rfl (by omega) h
theorem Ag.cont {n : Nat} {l l' : List UInt8} (a : Ag n l l') {x : Nat} (h : x + 1 < n) : contB l' x = contB l x := by
  have h1 := a.h
  have h2 := a.h'
  unfold contB
  rw [a.e x (by omega), a.e (x + 1) h, decide_eq_true (show x + 1 < l.length by omega), decide_eq_true (show x + 1 < l'.length by omega)]
theorem Ag.blank {n : Nat} {l l' : List UInt8} (a : Ag n l l') : ∀ (m x : Nat), l.length - x = m → x ≤ l.length → blankL l x + 2 ≤ n → blankL l' x = blankL l x := by
  intro m
  induction m using Nat.strongRecOn with
  | _ m ih =>
    intro x hm hx h
    have h1 := a.h
    have h2 := a.h'
    have hle := blankL_le l _ x rfl hx
    have hx1 : x < l.length := by omega
    have hx2 : x < l'.length := by omega
    have ee := a.e x (by omega)
    have ec := a.cont (x := x) (by omega)
    have h0 : x + 2 ≤ l.length := by omega
    rw [blankL_eq l' x, blankL_eq l x, if_pos hx1, if_pos hx2, ← ee, ec]
    rw [blankL_eq l x, if_pos hx1] at h
    split
    · rename_i hb
      rw [if_pos hb] at h
      exact ih (l.length - (x + 1)) (by omega) (x + 1) rfl (by omega) h
    · rename_i hb
      rw [if_neg hb] at h
      split
      · rename_i hc
        rw [if_pos hc] at h
        exact ih (l.length - (x + 2)) (by omega) (x + 2) rfl (by omega) h
      · rfl
theorem Ag.op {n : Nat} {l l' : List UInt8} (a : Ag n l l') {x : Nat} (h : x + 3 ≤ n) : opAt l' x = opAt l x := by
  have h1 := a.h
  have h2 := a.h'
  unfold opAt
  rw [a.e x (by omega), show min 3 (l.length - x) = 3 by omega, show min 3 (l'.length - x) = 3 by omega, ← opN_take _ 3 3 (Nat.le_refl _), ← opN_take (l.drop x) 3 3 (Nat.le_refl _)]
  have e : (l.drop x).take 3 = (l'.drop x).take 3 := by
    rw [← sub_take' l x 3 (by omega), ← sub_take' l' x 3 (by omega)]
    exact a.sub h
  rw [e]
theorem rAt_congr {l l' : List UInt8} : ∀ (k : Nat), (∀ i, i < k → l.getD i 0 = l'.getD i 0) → rAt l k = rAt l' k
  | 0, _ => rfl
  | k + 1, h => by
    show rStep (rAt l k).1 (rAt l k).2 (l.getD k 0) k = rStep (rAt l' k).1 (rAt l' k).2 (l'.getD k 0) k
    rw [rAt_congr k (fun i hi => h i (by omega)), h k (by omega)]
theorem Ag.stop {n : Nat} {l l' : List UInt8} (a : Ag n l l') {x j : Nat} (h : x + j < n) : endStop l' x j = endStop l x j := by
  unfold endStop
  rw [a.e _ h, rAt_congr (l := l'.drop x) (l' := l.drop x) j (fun i hi => by rw [getD_drop, getD_drop, a.e _ (by omega)])]
theorem endF_spec (s : Nat → Bool) : ∀ (m k : Nat), k ≤ endF s m k ∧ endF s m k ≤ k + m ∧ (∀ j, k ≤ j → j < endF s m k → s j = false) ∧ (endF s m k < k + m → s (endF s m k) = true)
  | 0, k => ⟨Nat.le_refl _, Nat.le_refl _, fun j h1 h2 => by simp only [endF] at h2; omega, fun h => by simp only [endF] at h; omega⟩
  | m + 1, k => by
    unfold endF
    by_cases hs : s k = true
    · rw [if_pos hs]
      exact ⟨Nat.le_refl _, by omega, fun j h1 h2 => by omega, fun _ => hs⟩
    · rw [if_neg hs]
      obtain ⟨h1, h2, h3, h4⟩ := endF_spec s m (k + 1)
      refine ⟨by omega, by omega, fun j h5 h6 => ?_, fun h => h4 (by omega)⟩
      by_cases e : j = k
      · subst e; simpa using hs
      · exact h3 j (by omega) h6
theorem endF_uniq (s : Nat → Bool) (m k e : Nat) (h1 : k ≤ e) (h2 : e < k + m) (h3 : ∀ j, k ≤ j → j < e → s j = false) (h4 : s e = true) : endF s m k = e := by
  obtain ⟨a1, a2, a3, a4⟩ := endF_spec s m k
  have b1 : ¬ endF s m k < e := fun h => by have := h3 _ a1 h; rw [a4 (by omega)] at this; cases this
  have b2 : ¬ e < endF s m k := fun h => by have := a3 _ h1 h; rw [h4] at this; cases this
  omega
theorem endL_le (l : List UInt8) (x : Nat) : endL l x ≤ l.length - x := by
  have := (endF_spec (endStop l x) (l.length - x) 0).2.1
  unfold endL
  omega
theorem Ag.word {n : Nat} {l l' : List UInt8} (a : Ag n l l') {x : Nat} (h : x + endL l x < n) : endL l' x = endL l x := by
  have h1 := a.h
  have h2 := a.h'
  obtain ⟨a1, a2, a3, a4⟩ := endF_spec (endStop l x) (l.length - x) 0
  have e : endF (endStop l x) (l.length - x) 0 = endL l x := rfl
  rw [e] at a1 a2 a3 a4
  refine endF_uniq _ _ _ _ (by omega) (by omega) (fun j hj hj2 => ?_) ?_
  · rw [a.stop (by omega)]; exact a3 j hj hj2
  · rw [a.stop h]; exact a4 (by omega)
theorem dig_ends (c : UInt8) (h : digB c = true) : endsB c = false := by
  have := byte_all (fun c => !digB c || !endsB c) (by decide +kernel) c
  simpa [h] using this
/-- A word is at least as long as the digits at its beginning. -/
theorem dig_word (l : List UInt8) (x : Nat) : digN l x ≤ endL l x := by
  obtain ⟨a1, a2, a3, a4⟩ := endF_spec (endStop l x) (l.length - x) 0
  have e : endF (endStop l x) (l.length - x) 0 = endL l x := rfl
  rw [e] at a1 a2 a3 a4
  refine Nat.le_of_not_lt fun h => ?_
  have h1 : digN l x ≤ l.length - x := spanL_le digB l x
  have h2 := a4 (by omega)
  have h3 := dig_ends _ (span_all digB l x _ h)
  unfold endStop endB at h2
  rw [h3] at h2
  simp at h2
theorem Ag.num {n : Nat} {l l' : List UInt8} (a : Ag n l l') {x : Nat} (h : x + digN l x < n) : numB l' x = numB l x := by
  have h1 := a.h
  have h2 := a.h'
  have hs : digN l' x = digN l x := a.span h
  unfold numB
  rw [hs, a.e _ h, decide_eq_true (show x + digN l x < l.length by omega), decide_eq_true (show x + digN l x < l'.length by omega)]
/-! A token is not empty. -/
theorem noends_word (l : List UInt8) (x : Nat) (hx : x < l.length) (h : endsB (l.getD x 0) = false) : 0 < endL l x := by
  obtain ⟨a1, a2, a3, a4⟩ := endF_spec (endStop l x) (l.length - x) 0
  have e : endF (endStop l x) (l.length - x) 0 = endL l x := rfl
  rw [e] at a1 a2 a3 a4
  refine Nat.pos_of_ne_zero fun h0 => ?_
  rw [h0] at a4
  have := a4 (by omega)
  unfold endStop endB at this
  rw [Nat.add_zero, h] at this
  simp at this
theorem ends_or (c : UInt8) (h : endsB c = true) : blankB c = true ∨ c.toNat = 10 ∨ clsOf c = 3 := by
  have := byte_all (fun c => !endsB c || (blankB c || c.toNat == 10 || clsOf c == 3)) (by decide +kernel) c
  simpa [h, or_assoc] using this
theorem plainL_to (l : List UInt8) (x : Nat) (hx : x < l.length) : (plainL l x).fr = x ∧ x < (plainL l x).to ∧ (plainL l x).to ≤ l.length ∧ 1 ≤ (plainL l x).kd ∧ (plainL l x).kd ≤ 6 := by
  unfold plainL
  split
  · rename_i h
    have h1 := (blankL_gt l x hx).2 h
    have h2 := blankL_le l _ x rfl (by omega)
    exact ⟨rfl, h1, h2.2, (by decide : 1 ≤ 1), (by decide : 1 ≤ 6)⟩
  · rename_i h
    split
    · exact ⟨rfl, Nat.lt_succ_self _, hx, (by decide : 1 ≤ 2), (by decide : 2 ≤ 6)⟩
    · rename_i h10
      split
      · rename_i h35
        have h1 := lineN_le l x (by omega)
        refine ⟨rfl, ?_, h1.2, (by decide : 1 ≤ 3), (by decide : 3 ≤ 6)⟩
        show x < lineN l x
        have : ((l.drop x).takeWhile fun c => c.toNat != 10).length ≠ 0 := by
          rw [List.drop_eq_getElem_cons hx, List.takeWhile_cons, if_pos]
          · simp
          · rw [List.getD_eq_getElem?_getD, List.getElem?_eq_getElem hx] at h35
            have h35 : (l[x]).toNat = 35 := h35
            rw [h35]; rfl
        unfold lineN
        omega
      · split
        · rename_i hop
          refine ⟨rfl, ?_, ?_, (by decide : 1 ≤ 4), (by decide : 4 ≤ 6)⟩
          · show x < x + _; omega
          · show x + (opAt l x).2 ≤ l.length
            have : ∀ (d : List UInt8) (n : Nat), (opN d n).2 ≤ n := by
              intro d n
              induction n with
              | zero => exact Nat.le_refl _
              | succ n ih => unfold opN; split; exact Nat.le_refl _; omega
            unfold opAt
            split
            · simp; omega
            · have := this (l.drop x) (min 3 (l.length - x)); omega
        · rename_i hop
          split
          · rename_i hn
            unfold numB at hn
            simp at hn
            exact ⟨rfl, by show x < x + _; omega, by show x + _ ≤ _; omega, (by decide : 1 ≤ 5), (by decide : 5 ≤ 6)⟩
          · rename_i hn
            have he : endsB (l.getD x 0) = false := by
              cases h2 : endsB (l.getD x 0)
              · rfl
              · exfalso
                rcases ends_or _ h2 with h3 | h3 | h3
                · exact h (.inl h3)
                · exact h10 h3
                · exact hop ((op_same l x hx).2.2.2 h3)
            have h1 := noends_word l x hx he
            have h2 := endL_le l x
            exact ⟨rfl, by show x < x + _; omega, by show x + _ ≤ _; omega, (by decide : 1 ≤ 6), (by decide : 6 ≤ 6)⟩
theorem docL_to (l : List UInt8) (x : Nat) (hx : x < l.length) (X : Lx) (d : Dl) (r : List Dl) : (docL l x X d r).1.fr = x ∧ x < (docL l x X d r).1.to ∧ (docL l x X d r).1.to ≤ l.length ∧ (docL l x X d r).1.kd = 7 := by
  have h := hereL_le l d.1 d.2 _ x rfl hx
  unfold docL
  split
  · exact ⟨rfl, h.1, h.2.1, rfl⟩
  · exact ⟨rfl, h.1, h.2.1, rfl⟩
theorem stepL_to (l : List UInt8) (x : Nat) (hx : x < l.length) (X : Lx) : (stepL l x X).1.fr = x ∧ x < (stepL l x X).1.to ∧ (stepL l x X).1.to ≤ l.length ∧ 1 ≤ (stepL l x X).1.kd ∧ (stepL l x X).1.kd ≤ 7 := by
  have hp := plainL_to l x hx
  unfold stepL
  split
  · rename_i d r _ _
    have := docL_to l x hx X d r
    exact ⟨this.1, this.2.1, this.2.2.1, by omega, by omega⟩
  · exact ⟨hp.1, hp.2.1, hp.2.2.1, hp.2.2.2.1, by have := hp.2.2.2.2; show (plainL l x).kd ≤ 7; omega⟩
/-! The law. -/
theorem Ag.plain {n : Nat} {l l' : List UInt8} (a : Ag n l l') {x : Nat} (hx : x < l.length) (h : (plainL l x).to + 2 ≤ n) : plainL l' x = plainL l x := by
  have h1 := a.h
  have h2 := a.h'
  have hto := plainL_to l x hx
  have ee := a.e x (by omega)
  have ec := a.cont (x := x) (by omega)
  have eo := a.op (x := x) (by omega)
  unfold plainL at h
  unfold plainL
  rw [← ee, ec, eo]
  split
  · rename_i hb
    rw [if_pos hb] at h
    rw [a.blank _ x rfl (by omega) h]
  · rename_i hb
    rw [if_neg hb] at h
    split
    · rfl
    · rename_i h10
      rw [if_neg h10] at h
      split
      · rename_i h35
        rw [if_pos h35] at h
        have h : lineN l x + 2 ≤ n := h
        rw [a.line (by omega)]
      · rename_i h35
        rw [if_neg h35] at h
        split
        · rfl
        · rename_i hop
          rw [if_neg hop] at h
          by_cases hn : numB l x = true
          · rw [if_pos hn] at h
            have h : x + digN l x + 2 ≤ n := h
            have hs : digN l' x = digN l x := a.span (by show x + digN l x < n; omega)
            rw [a.num (by omega), if_pos hn, if_pos hn, hs]
          · rw [if_neg hn] at h
            have h : x + endL l x + 2 ≤ n := h
            have hd := dig_word l x
            rw [a.num (by omega), if_neg hn, if_neg hn, a.word (by omega), ← a.sub (by omega)]
theorem Ag.step {n : Nat} {l l' : List UInt8} (a : Ag n l l') {x : Nat} (hx : x < l.length) (X : Lx) (h : (stepL l x X).1.to + 2 ≤ n) : stepL l' x X = stepL l x X := by
  unfold stepL at h ⊢
  split
  · rename_i d r hb hp
    rw [hb, hp] at h
    have hh : (hereL l x d.1 d.2).1 + 2 ≤ n := by
      simp only [docL] at h
      split at h <;> exact h
    unfold docL
    rw [a.here d.1 d.2 _ x rfl hx (by omega)]
  · rename_i hne
    have h : (plainL l x).to + 2 ≤ n := by
      split at h
      · rename_i d r hb hp; exact absurd hp (fun hp => hne d r hb hp)
      · exact h
    rw [a.plain hx h, ← a.sub (by omega)]
/-! Lexing. -/
theorem lexF_fuel (l : List UInt8) : ∀ (m m' x : Nat) (X : Lx), l.length < m + x → l.length < m' + x → lexF l m x X = lexF l m' x X
  | 0, m', x, X, h, h' => by
    cases m' with
    | zero => rfl
    | succ m' => unfold lexF; rw [if_neg (by omega)]
  | m + 1, 0, x, X, h, h' => by unfold lexF; rw [if_neg (by omega)]
  | m + 1, m' + 1, x, X, h, h' => by
    unfold lexF
    by_cases hx : x < l.length
    · have := stepL_to l x hx X
      rw [if_pos hx, if_pos hx, lexF_fuel l m m' _ _ (by omega) (by omega)]
    · rw [if_neg hx, if_neg hx]
/-- The tokens from a place on. -/
def lexA (l : List UInt8) (x : Nat) (X : Lx) : List Tk × Lx := lexF l (l.length + 1 - x) x X
theorem lexA_eq (l : List UInt8) (x : Nat) (X : Lx) : lexA l x X = if x < l.length then ((stepL l x X).1 :: (lexA l (stepL l x X).1.to (stepL l x X).2).1, (lexA l (stepL l x X).1.to (stepL l x X).2).2) else ([], X) := by
  unfold lexA
  by_cases hx : x < l.length
  · obtain ⟨m, hm⟩ : ∃ m, l.length + 1 - x = m + 1 := ⟨l.length - x, by omega⟩
    have := stepL_to l x hx X
    rw [hm]
    show (if x < l.length then _ else _) = _
    rw [if_pos hx, if_pos hx, lexF_fuel l m (l.length + 1 - (stepL l x X).1.to) (stepL l x X).1.to (stepL l x X).2 (by omega) (by omega)]
  · rw [if_neg hx]
    by_cases h0 : l.length + 1 - x = 0
    · rw [h0]; rfl
    · obtain ⟨m, hm⟩ : ∃ m, l.length + 1 - x = m + 1 := ⟨l.length + 1 - x - 1, by omega⟩
      rw [hm]
      show (if x < l.length then _ else _) = _
      rw [if_neg hx]
theorem lexL_A (l : List UInt8) : lexL l = lexA l 0 lx0 := rfl
theorem lex_ahead {n : Nat} {l l' : List UInt8} (a : Ag n l l') : ∀ (i x : Nat) (X : Lx) (t : Tk), (lexA l x X).1[i]? = some t → t.to + 2 ≤ n → x ≤ l'.length → (lexA l' x X).1[i]? = some t ∧ x < t.to
  | i, x, X, t, hi, ht, hx' => by
    have h1 := a.h
    have h2 := a.h'
    have hx : x < l.length := by
      refine Nat.lt_of_not_le fun h => ?_
      rw [lexA_eq, if_neg (by omega)] at hi
      simp at hi
    have hto := stepL_to l x hx X
    rw [lexA_eq, if_pos hx] at hi
    cases i with
    | zero =>
      simp only [List.getElem?_cons_zero, Option.some.injEq] at hi
      subst hi
      have hs := a.step hx X ht
      rw [lexA_eq, if_pos (by omega), hs]
      exact ⟨rfl, hto.2.1⟩
    | succ i =>
      simp only [List.getElem?_cons_succ] at hi
      have key : (stepL l x X).1.to < t.to := by
        -- the token behind ends behind
        have : ∀ (i x : Nat) (X : Lx) (t : Tk), (lexA l x X).1[i]? = some t → x < t.to := by
          intro i
          induction i with
          | zero =>
            intro x X t hi
            by_cases hx : x < l.length
            · rw [lexA_eq, if_pos hx] at hi
              simp only [List.getElem?_cons_zero, Option.some.injEq] at hi
              subst hi
              exact (stepL_to l x hx X).2.1
            · rw [lexA_eq, if_neg hx] at hi; simp at hi
          | succ i ih =>
            intro x X t hi
            by_cases hx : x < l.length
            · rw [lexA_eq, if_pos hx] at hi
              simp only [List.getElem?_cons_succ] at hi
              have := ih _ _ _ hi
              have := (stepL_to l x hx X).2.1
              omega
            · rw [lexA_eq, if_neg hx] at hi; simp at hi
        exact this i _ _ _ hi
      have hs := a.step hx X (by omega)
      obtain ⟨r1, r2⟩ := lex_ahead a i _ _ t hi ht (by omega)
      rw [lexA_eq, if_pos (by omega), hs]
      exact ⟨by simpa using r1, by omega⟩
end Go.Proofs.YtihmjejcikpibaaDoor
