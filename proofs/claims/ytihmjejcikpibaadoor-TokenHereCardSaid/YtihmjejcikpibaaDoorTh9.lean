/- A here-document is all lines up to the first one that is its delimiter: the plain law. No program is in sight. -/
import Derived.Test.YtihmjejcikpibaaDoorLa9
import Derived.Test.YtihmjejcikpibaaDoorCls
namespace Go.Proofs.YtihmjejcikpibaaDoor
set_option linter.unusedVariables false
set_option linter.unusedSimpArgs false
set_option maxRecDepth 100000
/-! Names as words. -/
theorem name_calm (c : UInt8) (h : nameB c = true) : calm c := by
  have := byte_all (fun c => !nameB c || (c.toNat != 92 && c.toNat != 39 && c.toNat != 34 && c.toNat != 96 && c.toNat != 36 && c.toNat != 35 && c.toNat != 40 && c.toNat != 41)) (by decide +kernel) c
  rw [h] at this
  simpa [calm, and_assoc] using this
theorem name_ends (c : UInt8) (h : nameB c = true) : endsB c = false ∧ (c.toNat == 10) = false ∧ (c.toNat == 9) = false := by
  have := byte_all (fun c => !nameB c || (!endsB c && c.toNat != 10 && c.toNat != 9)) (by decide +kernel) c
  rw [h] at this
  simpa [and_assoc] using this
theorem let_all (c : UInt8) (h : letB c = true) : nameB c = true ∧ blankB c = false ∧ c.toNat ≠ 92 ∧ c.toNat ≠ 10 ∧ c.toNat ≠ 35 ∧ clsOf c ≠ 3 ∧ digB c = false ∧ opOf [60, 60, c] = 0 := by
  have := byte_all (fun c => !letB c || (nameB c && !blankB c && c.toNat != 92 && c.toNat != 10 && c.toNat != 35 && clsOf c != 3 && !digB c && opOf [60, 60, c] == 0)) (by decide +kernel) c
  rw [h] at this
  simpa [and_assoc] using this
theorem calm_up {l : List UInt8} : ∀ (k : Nat), (∀ i, i < k → calm (l.getD i 0)) → (rAt l k).1 = [(84, 0)]
  | 0, _ => rfl
  | k + 1, h => by
    show (rStep (rAt l k).1 (rAt l k).2 (l.getD k 0) k).1 = _
    rw [calm_up k (fun i hi => h i (by omega))]
    exact calm_step _ _ _ (h k (by omega))
theorem name_word (l : List UInt8) (x n : Nat) (hall : ∀ i, i < n → nameB (l.getD (x + i) 0) = true) (hend : endsB (l.getD (x + n) 0) = true) (hlt : x + n < l.length) : endL l x = n := by
  refine endF_uniq _ _ _ _ (by omega) (by omega) (fun j _ hj => ?_) ?_
  · unfold endStop endB
    rw [(name_ends _ (hall j hj)).1]
    rfl
  · unfold endStop endB
    rw [hend, calm_up n (fun i hi => by rw [getD_drop]; exact name_calm _ (hall i hi))]
    rfl
theorem word_tok (l : List UInt8) (x n : Nat) (hn : 0 < n) (h0 : letB (l.getD x 0) = true) (hall : ∀ i, i < n → nameB (l.getD (x + i) 0) = true) (hend : endsB (l.getD (x + n) 0) = true) (hlt : x + n < l.length) : ∃ b, plainL l x = ⟨6, x, x + n, b⟩ := by
  obtain ⟨_, h1, h2, h3, h4, h5, h6, _⟩ := let_all _ h0
  have hd : digN l x = 0 := by
    refine span_uniq digB l x 0 (fun i hi => by omega) (by omega) h6
  refine ⟨!shutB (sub l x (x + n)), ?_⟩
  unfold plainL
  rw [if_neg, if_neg h3, if_neg h4, if_neg, if_neg, name_word l x n hall hend hlt]
  · unfold numB
    rw [hd]
    simp
  · unfold opAt
    rw [if_pos h5]
    simp
  · rintro (h | h)
    · rw [h1] at h; cases h
    · unfold contB at h
      simp at h
      exact h2 h.1.2
theorem name_val {w : List UInt8} (hw : ∀ c ∈ w, nameB c = true) (hne : w ≠ []) : txL (pcsL w) = w := by
  rw [calm_pcs (fun b hb => name_calm b (hw b hb))]
  unfold flP txL
  rw [if_neg hne]
  simp
/-! The document. -/
def lastL (t : Bool) (w : List UInt8) : List UInt8 := (if t = true then [9] else []) ++ (w ++ [10])
theorem tabT_last (t : Bool) (w : List UInt8) (hne : ∀ c ∈ w.head?, (c.toNat == 9) = false) : tabT t ((if t = true then [9] else []) ++ w) = w := by
  cases t
  · rfl
  · show (9 :: w).dropWhile (fun c => c.toNat == 9) = w
    rw [List.dropWhile_cons_of_pos (by decide)]
    cases w with
    | nil => rfl
    | cons c r =>
      rw [List.dropWhile_cons_of_neg]
      rw [hne c rfl]
      decide
theorem lineN_at (l : List UInt8) (x k : Nat) (h1 : ∀ i, i < k → (l.getD (x + i) 0).toNat ≠ 10) (h2 : x + k < l.length) (h3 : (l.getD (x + k) 0).toNat = 10) : lineN l x = x + k := by
  rw [lineN_span, span_uniq _ l x k (fun i hi => by simpa using h1 i hi) h2 (by simpa using h3)]
theorem getD_r (a b : List UInt8) (i : Nat) : (a ++ b).getD (a.length + i) 0 = b.getD i 0 := by simp [List.getD_eq_getElem?_getD, List.getElem?_append_right]
theorem getD_l (a b : List UInt8) (i : Nat) (h : i < a.length) : (a ++ b).getD i 0 = a.getD i 0 := by simp [List.getD_eq_getElem?_getD, List.getElem?_append_left h]
theorem sub_r (a b : List UInt8) (x y : Nat) : sub (a ++ b) (a.length + x) (a.length + y) = sub b x y := by
  unfold sub
  rw [List.take_append, List.take_of_length_le (by omega), show a.length + y - a.length = y by omega, List.drop_append, List.drop_eq_nil_of_le (by omega), show a.length + x - a.length = x by omega]
  rfl
theorem here_last (A w R : List UInt8) (t : Bool) (hw : ∀ c ∈ w, nameB c = true) : hereL (A ++ (lastL t w ++ R)) A.length w t = (A.length + (lastL t w).length, true) := by
  obtain ⟨p, hp⟩ : ∃ p, p = (if t = true then [9] else ([] : List UInt8)) ++ w := ⟨_, rfl⟩
  have hl : lastL t w = p ++ [10] := by rw [hp]; simp [lastL]
  have hp10 : ∀ c ∈ p, c.toNat ≠ 10 := by
    intro c hc
    rw [hp] at hc
    rcases List.mem_append.1 hc with h | h
    · cases t
      · cases h
      · simp at h; subst h; decide
    · have := (name_ends c (hw c h)).2.1; simpa using this
  have hlen : A.length < (A ++ (lastL t w ++ R)).length := by rw [hl]; simp; omega
  have hT : A ++ (lastL t w ++ R) = A ++ (p ++ (10 :: R)) := by rw [hl]; simp
  have hN : lineN (A ++ (p ++ (10 :: R))) A.length = A.length + p.length := by
    refine lineN_at _ _ _ (fun i hi => ?_) (by simp) ?_
    · rw [getD_r, getD_l _ _ _ hi]
      rw [List.getD_eq_getElem?_getD, List.getElem?_eq_getElem hi]
      exact hp10 _ (List.getElem_mem hi)
    · rw [getD_r]
      have := getD_r p (10 :: R) 0
      rw [Nat.add_zero] at this
      rw [this]
      rfl
  have hE : lineE (A ++ (p ++ (10 :: R))) A.length = A.length + p.length + 1 := by
    unfold lineE
    rw [hN, if_pos (by simp)]
  have hS : sub (A ++ (p ++ (10 :: R))) A.length (A.length + p.length) = p := by
    have := sub_r A (p ++ (10 :: R)) 0 p.length
    rw [Nat.add_zero] at this
    rw [this]
    unfold sub
    rw [List.take_left]
    rfl
  rw [hereL_eq, if_pos hlen, hT, hN, hE, hS, if_pos]
  · rw [hl]; simp; omega
  · rw [hp]
    exact tabT_last t w (fun c hc => (name_ends c (hw c (List.mem_of_mem_head? hc))).2.2)
theorem here_body (A B w R : List UInt8) (t : Bool) (hw : ∀ c ∈ w, nameB c = true) (hB : B = [] ∨ (B.getD (B.length - 1) 0).toNat = 10) : ∀ (m x : Nat), B.length - x = m → x ≤ B.length → (hereL B x w t).2 = false →
    hereL (A ++ (B ++ (lastL t w ++ R))) (A.length + x) w t = (A.length + B.length + (lastL t w).length, true) := by
  intro m
  induction m using Nat.strongRecOn with
  | _ m ih =>
    intro x hm hx hno
    by_cases hlt : x < B.length
    · have hne : B ≠ [] := by rintro rfl; simp at hlt
      have h10 := hB.resolve_left hne
      have hle := lineN_le B x hx
      have hN1 : lineN B x < B.length := by
        refine Nat.lt_of_not_le fun h => ?_
        have h2 : ∀ i, i < spanL (fun c => c.toNat != 10) B x → (fun c : UInt8 => c.toNat != 10) (B.getD (x + i) 0) = true := span_all _ B x
        rw [lineN_span] at h
        have := h2 (B.length - 1 - x) (by omega)
        rw [show x + (B.length - 1 - x) = B.length - 1 by omega] at this
        simp at this
        exact this h10
      have hE : lineE B x = lineN B x + 1 := by unfold lineE; rw [if_pos hN1]
      have hT : ∀ i, i < B.length → (A ++ (B ++ (lastL t w ++ R))).getD (A.length + i) 0 = B.getD i 0 := fun i hi => by rw [getD_r, getD_l _ _ _ hi]
      obtain ⟨k, hk⟩ : ∃ k, lineN B x = x + k := ⟨_, lineN_span B x⟩
      have hkB : x + k < B.length := by omega
      have hN : lineN (A ++ (B ++ (lastL t w ++ R))) (A.length + x) = A.length + lineN B x := by
        rw [hk, ← Nat.add_assoc]
        have hk2 : spanL (fun c => c.toNat != 10) B x = k := by rw [lineN_span] at hk; omega
        refine lineN_at _ _ _ (fun i hi => ?_) (by simp; omega) ?_
        · rw [Nat.add_assoc, hT _ (by omega)]
          have := span_all (fun c : UInt8 => c.toNat != 10) B x i (by omega)
          simpa using this
        · rw [Nat.add_assoc, hT _ (by omega)]
          have := span_stop (fun c : UInt8 => c.toNat != 10) B x (by omega)
          rw [hk2] at this
          simpa using this
      have hE2 : lineE (A ++ (B ++ (lastL t w ++ R))) (A.length + x) = A.length + lineE B x := by
        unfold lineE
        rw [hN, if_pos hN1, if_pos (by simp; omega)]
        omega
      have hS : sub (A ++ (B ++ (lastL t w ++ R))) (A.length + x) (A.length + lineN B x) = sub B x (lineN B x) := by
        rw [sub_r]
        unfold sub
        rw [List.take_append_of_le_length (by omega)]
      rw [hereL_eq, if_pos hlt] at hno
      rw [hereL_eq, if_pos (by simp; omega), hN, hS, hE2]
      by_cases hq : tabT t (sub B x (lineN B x)) = w
      · rw [if_pos hq] at hno; cases hno
      · rw [if_neg hq] at hno ⊢
        have := lineE_le B x hlt
        exact ih (B.length - lineE B x) (by omega) (lineE B x) rfl this.2 hno
    · obtain rfl : x = B.length := by omega
      have := here_last (A ++ B) w R t hw
      rw [List.length_append, List.append_assoc] at this
      exact this
/-! The tokens ahead of it. -/
def preL (t : Bool) : List UInt8 := if t = true then [99, 32, 60, 60, 45] else [99, 32, 60, 60]
def headL (t : Bool) (w : List UInt8) : List UInt8 := preL t ++ (w ++ [10])
theorem pre_bytes (t : Bool) (m : List UInt8) : (preL t ++ m).getD 0 0 = 99 ∧ (preL t ++ m).getD 1 0 = 32 ∧ (preL t ++ m).getD 2 0 = 60 ∧ ((preL t ++ m).drop 2).take 3 = (if t = true then [60, 60, 45] else 60 :: 60 :: m.take 1) ∧ sub (preL t ++ m) 2 (preL t).length = (if t = true then [60, 60, 45] else [60, 60]) ∧ (preL t).length = (if t = true then 5 else 4) := by
  cases t <;> refine ⟨rfl, rfl, rfl, ?_, ?_, rfl⟩ <;> simp [preL, sub]
theorem opN_3 (d : List UInt8) (x : UInt8) (h : d.take 3 = [60, 60, x]) (h0 : opOf [60, 60, x] = 0) : opN d 3 = (4, 2) := by
  have h2 : d.take 2 = [60, 60] := by
    have := congrArg (List.take 2) h
    rwa [List.take_take] at this
  unfold opN
  rw [h, h0]
  unfold opN
  rw [h2]
  rfl
theorem doc_steps (w D : List UInt8) (t : Bool) (hne : w ≠ []) (h0 : ∀ c ∈ w.head?, letB c = true) (hw : ∀ c ∈ w, nameB c = true) (hD : D ≠ []) (e : Nat) (T : List UInt8) (hT : T = preL t ++ (w ++ 10 :: D))
    (he : hereL T (headL t w).length w t = (e, true)) : (lexL T).1[5]? = some ⟨7, (headL t w).length, e, false⟩ := by
  obtain ⟨p, hp⟩ : ∃ p, p = (preL t).length := ⟨_, rfl⟩
  obtain ⟨n, hn⟩ : ∃ n, n = w.length := ⟨_, rfl⟩
  obtain ⟨c, r, rfl⟩ : ∃ c r, w = c :: r := by cases w with | nil => exact absurd rfl hne | cons c r => exact ⟨c, r, rfl⟩
  have hc : letB c = true := h0 c rfl
  have hH : (headL t (c :: r)).length = p + n + 1 := by unfold headL; rw [hp, hn]; simp; omega
  have hDl : 0 < D.length := List.length_pos_iff.2 hD
  have hlen : T.length = p + n + 1 + D.length := by rw [hT, hp, hn]; simp; omega
  have hp4 : p = if t = true then 5 else 4 := by rw [hp]; cases t <;> rfl
  have hp5 : 4 ≤ p ∧ p ≤ 5 := by rw [hp4]; cases t <;> simp
  obtain ⟨b0, b1, b2, b3, b4, _⟩ := pre_bytes t ((c :: r) ++ 10 :: D)
  rw [← hT] at b0 b1 b2 b3 b4
  rw [← hp] at b4
  have bw : ∀ i, i < n → T.getD (p + i) 0 = (c :: r).getD i 0 := fun i hi => by rw [hT, hp, getD_r, getD_l _ _ _ (by rw [hn] at hi; exact hi)]
  have bw0 : T.getD p 0 = c := by have := bw 0 (by rw [hn]; simp); simpa using this
  have b10 : T.getD (p + n) 0 = 10 := by
    rw [hT, hp, getD_r, hn]
    have := getD_r (c :: r) (10 :: D) 0
    rw [Nat.add_zero] at this
    rw [this]
    rfl
  have hn1 : 1 ≤ n := by rw [hn]; simp
  -- the six steps
  have s0 : ∃ b, stepL T 0 lx0 = (⟨6, 0, 1, b⟩, ⟨0, [], false⟩) := by
    obtain ⟨b, hb⟩ := word_tok T 0 1 (by omega) (by rw [b0]; decide) (fun i hi => by obtain rfl : i = 0 := (by omega); rw [Nat.zero_add, b0]; decide) (by rw [Nat.zero_add, b1]; decide) (by omega)
    refine ⟨b, ?_⟩
    show (plainL T 0, behindL (sub T 0 (plainL T 0).to) (plainL T 0).kd lx0) = _
    rw [hb]
    rfl
  have s1 : stepL T 1 ⟨0, [], false⟩ = (⟨1, 1, 2, false⟩, ⟨0, [], false⟩) := by
    have hbl : blankL T 1 = 2 := by
      rw [blankL_eq, if_pos (by omega), if_pos (by rw [b1]; decide), blankL_eq, if_pos (by omega), if_neg (by rw [b2]; decide), if_neg]
      unfold contB
      rw [b2]
      simp
    have hpl : plainL T 1 = ⟨1, 1, 2, false⟩ := by
      unfold plainL
      rw [if_pos (.inl (by rw [b1]; decide)), hbl]
    show (plainL T 1, behindL (sub T 1 (plainL T 1).to) (plainL T 1).kd ⟨0, [], false⟩) = _
    rw [hpl]
    rfl
  have s2 : stepL T 2 ⟨0, [], false⟩ = (⟨4, 2, p, false⟩, ⟨if t = true then 5 else 4, [], false⟩) := by
    have hop : (opAt T 2).2 = p - 2 := by
      unfold opAt
      rw [b2, if_neg (by decide), show min 3 (T.length - 2) = 3 by omega]
      cases t
      · have b3' : (T.drop 2).take 3 = [60, 60, c] := by rw [b3]; rfl
        rw [opN_3 _ c b3' (let_all c hc).2.2.2.2.2.2.2, hp4]
        rfl
      · have b3' : (T.drop 2).take 3 = [60, 60, 45] := by rw [b3]; rfl
        have : opN (T.drop 2) 3 = (5, 3) := by
          unfold opN
          rw [b3']
          rfl
        rw [this, hp4]
        rfl
    have hpl : plainL T 2 = ⟨4, 2, p, false⟩ := by
      unfold plainL
      rw [if_neg, if_neg (by rw [b2]; decide), if_neg (by rw [b2]; decide), if_pos (by omega), hop, show 2 + (p - 2) = p by omega]
      rintro (h | h)
      · rw [b2] at h; exact absurd h (by decide)
      · unfold contB at h
        rw [b2] at h
        simp at h
    show (plainL T 2, behindL (sub T 2 (plainL T 2).to) (plainL T 2).kd ⟨0, [], false⟩) = _
    rw [hpl]
    show (_, behindL (sub T 2 p) 4 _) = _
    rw [b4]
    cases t <;> rfl
  have s3 : ∃ b, stepL T p ⟨if t = true then 5 else 4, [], false⟩ = (⟨6, p, p + n, b⟩, ⟨0, [(c :: r, t)], false⟩) := by
    obtain ⟨b, hb⟩ := word_tok T p n (by omega) (by rw [bw0]; exact hc) (fun i hi => by
      rw [bw i hi, List.getD_eq_getElem?_getD, List.getElem?_eq_getElem (by rw [hn] at hi; exact hi)]
      exact hw _ (List.getElem_mem _)) (by rw [b10]; decide) (by omega)
    refine ⟨b, ?_⟩
    show (plainL T p, behindL (sub T p (plainL T p).to) (plainL T p).kd _) = _
    rw [hb]
    have hsub : sub T p (p + n) = c :: r := by
      have := sub_r (preL t) ((c :: r) ++ 10 :: D) 0 n
      rw [Nat.add_zero, ← hp, ← hT] at this
      rw [this, hn]
      unfold sub
      rw [List.take_left]
      rfl
    show (_, behindL (sub T p (p + n)) 6 _) = _
    rw [hsub]
    unfold behindL
    rw [if_neg (by decide), if_neg (by decide), if_neg (by decide), if_pos rfl, name_val hw (by simp)]
    cases t <;> rfl
  have s4 : stepL T (p + n) ⟨0, [(c :: r, t)], false⟩ = (⟨2, p + n, p + n + 1, false⟩, ⟨0, [(c :: r, t)], true⟩) := by
    have hpl : plainL T (p + n) = ⟨2, p + n, p + n + 1, false⟩ := by
      unfold plainL
      rw [if_neg, if_pos (by rw [b10]; decide)]
      rintro (h | h)
      · rw [b10] at h; exact absurd h (by decide)
      · unfold contB at h
        rw [b10] at h
        simp at h
    show (plainL T (p + n), behindL (sub T (p + n) (plainL T (p + n)).to) (plainL T (p + n)).kd _) = _
    rw [hpl]
    rfl
  have s5 : (stepL T (p + n + 1) ⟨0, [(c :: r, t)], true⟩).1 = ⟨7, p + n + 1, e, false⟩ := by
    show (docL T (p + n + 1) _ _ _).1 = _
    rw [hH] at he
    unfold docL
    rw [show hereL T (p + n + 1) (c :: r, t).1 (c :: r, t).2 = (e, true) from he]
    rfl
  obtain ⟨q0, s0⟩ := s0
  obtain ⟨q3, s3⟩ := s3
  rw [lexL_A, lexA_eq, if_pos (by omega), s0]
  show (lexA T 1 ⟨0, [], false⟩).1[4]? = _
  rw [lexA_eq, if_pos (by omega), s1]
  show (lexA T 2 ⟨0, [], false⟩).1[3]? = _
  rw [lexA_eq, if_pos (by omega), s2]
  show (lexA T p ⟨if t = true then 5 else 4, [], false⟩).1[2]? = _
  rw [lexA_eq, if_pos (by omega), s3]
  show (lexA T (p + n) ⟨0, [(c :: r, t)], false⟩).1[1]? = _
  rw [lexA_eq, if_pos (by omega), s4]
  show (lexA T (p + n + 1) ⟨0, [(c :: r, t)], true⟩).1[0]? = _
  rw [lexA_eq, if_pos (by omega), hH]
  show some (stepL T (p + n + 1) _).1 = _
  rw [s5]
theorem here_law (w B R : List UInt8) (t : Bool) (hne : w ≠ []) (h0 : ∀ c ∈ w.head?, letB c = true) (hw : ∀ c ∈ w, nameB c = true) (hB : B = [] ∨ (B.getD (B.length - 1) 0).toNat = 10) (hno : (hereL B 0 w t).2 = false) :
    (lexL (headL t w ++ (B ++ (lastL t w ++ R)))).1[5]? = some ⟨7, (headL t w).length, (headL t w).length + B.length + (lastL t w).length, false⟩ := by
  refine doc_steps w (B ++ (lastL t w ++ R)) t hne h0 hw ?_ _ _ (by unfold headL; simp) ?_
  · unfold lastL; simp
  · have := here_body (headL t w) B w R t hw hB _ 0 rfl (by omega) hno
    rwa [Nat.add_zero] at this
end Go.Proofs.YtihmjejcikpibaaDoor
