/- Plain laws of chapter 8 on special texts: between quotes; between double quotes; with a backslash ahead of each byte. No program is in sight. -/
import Derived.Test.YtjkiapgboljabaaTr8
namespace Go.Proofs.Ytjkiapgboljabaa
set_option linter.unusedVariables false
set_option linter.unusedSimpArgs false
set_option maxRecDepth 100000
theorem FT_of {l : List UInt8} {k : Nat} {Y : Stk} (h : (rAt l k).1 = Y ++ [(84, 0)]) : FT l k = Y.reverse := by unfold FT XT; rw [h, List.dropLast_concat]
theorem alive_of {l : List UInt8} {x k : Nat} {c : UInt8} (h : (c, (x : Int)) ∈ FT l k) : Alive l x k := List.mem_map.2 ⟨_, h, rfl⟩
theorem up_one {l : List UInt8} {q : Prt} {c : UInt8} (hp : PI l q 0) (h : FT l 1 = [(c, 0)]) : q.up = -1 := by rw [hp.up, h]; rfl
theorem not_lone {q : Prt} {x : Nat} (h12 : q.mode ≠ 12) (h14 : q.mode ≠ 14) : ¬ (loneB q x = true ∨ q.mode = 14) := by
  rintro (h | h)
  · unfold loneB at h; simp at h; exact h12 h.1
  · exact h14 h
/-! Between quotes. -/
theorem single_pcs {t : List UInt8} (ht : ∀ b ∈ t, b.toNat ≠ 39) : pcsL (39 :: (t ++ [39])) = [⟨false, true, t⟩] ∧ (partsL (39 :: (t ++ [39]))).any quB = true := by
  have hq := rAt_quoted [] t [39] 84 0 [] rfl (.inl rfl) ht
  simp only [List.nil_append, List.length_nil, Nat.zero_add] at hq
  obtain ⟨l, hl⟩ : ∃ l, l = 39 :: (t ++ [39]) := ⟨_, rfl⟩
  rw [← hl] at hq ⊢
  have hlen : l.length = t.length + 2 := by rw [hl]; simp
  have h1 : ∀ k, 1 ≤ k → k ≤ t.length + 1 → FT l k = [(83, 0)] := by
    intro k hk hk2
    have := hq (k - 1) (by omega)
    rw [show 1 + (k - 1) = k by omega] at this
    exact FT_of (Y := [(83, 0)]) (by rw [this]; rfl)
  have h2 : FT l (t.length + 2) = [] := by
    refine FT_of (Y := []) ?_
    rw [show t.length + 2 = (1 + t.length) + 1 by omega, rAt_next, hq _ (Nat.le_refl _)]
    have e : l.getD (1 + t.length) 0 = 39 := by
      rw [hl, List.getD_eq_getElem?_getD, show 1 + t.length = t.length + 1 by omega, List.getElem?_cons_succ, List.getElem?_append_right (by omega)]
      simp
    rw [e, quote_out]
    rfl
  have m1 : ((83 : UInt8), ((0 : Nat) : Int)) ∈ FT l (t.length + 1) := by rw [h1 _ (by omega) (by omega)]; simp
  obtain ⟨q, hf, hm, hp, hmd, hto, hop⟩ := find_shut (l := l) (x := 0) (e := t.length + 2) (c := 83) (by omega) (by omega) (alive_of m1) (by unfold Alive; rw [h2]; simp [pls]) m1 (by decide)
  have hmd : q.mode = 4 := hmd
  refine ⟨?_, ?_⟩
  · unfold pcsL
    rw [hlen]
    unfold pcsF
    rw [if_pos (by omega)]
    simp only [hf]
    rw [if_neg (not_lone (by omega) (by omega)), if_neg (by omega), if_pos hmd, hto]
    have e1 : pcsF l (partsL l) (t.length + 2) (t.length + 2) [] = [] := by
      unfold pcsF
      rw [if_neg (by omega)]
      rfl
    have e2 : sub l (0 + 1) (endQ q) = t := by
      unfold endQ
      rw [hop, hto, hl]
      unfold sub
      simp
    rw [e1, e2]
    rfl
  · refine List.any_eq_true.2 ⟨q, hm, ?_⟩
    unfold quB
    rw [up_one hp (h1 1 (by omega) (by omega)), hmd]
    decide
/-! With a backslash ahead of each byte. -/
theorem qbs_at : ∀ (t : List UInt8) (i : Nat), i < t.length → (qbs t).getD (2 * i) 0 = 92 ∧ (qbs t).getD (2 * i + 1) 0 = t.getD i 0
  | [], i, h => by simp at h
  | c :: t, 0, _ => ⟨rfl, rfl⟩
  | c :: t, i + 1, h => by
    have := qbs_at t i (by simpa using h)
    have e : qbs (c :: t) = 92 :: c :: qbs t := rfl
    rw [e]
    exact this
theorem esc_in (f : Bool) (a : Int) : (rStep [(84, 0)] f 92 a) = ([(88, a), (84, 0)], f) := by simp [rStep, rPlain, rProgram]
theorem esc_out (f : Bool) (r : Stk) (p a : Int) (b : UInt8) : (rStep ((88, p) :: r) f b a).1 = r := by simp [rStep, rPlain]
theorem rAt_1 (l : List UInt8) (n : Nat) : (rAt l (n + 1)).1 = (rStep (rAt l n).1 (rAt l n).2 (l.getD n 0) n).1 := rfl
theorem escd_at (t : List UInt8) : ∀ i, i ≤ t.length → (rAt (qbs t) (2 * i)).1 = [(84, 0)]
  | 0, _ => rfl
  | i + 1, h => by
    rw [show 2 * (i + 1) = 2 * i + 1 + 1 by omega, rAt_1, rAt_1, escd_at t i (by omega), (qbs_at t i (by omega)).1, esc_in, esc_out]
theorem escd_mid (t : List UInt8) (i : Nat) (h : i < t.length) : (rAt (qbs t) (2 * i + 1)).1 = [(88, ((2 * i : Nat) : Int)), (84, 0)] := by
  rw [rAt_1, escd_at t i (by omega), (qbs_at t i h).1, esc_in]
def noNl (t : List UInt8) : List UInt8 := t.filter fun c => c.toNat != 10
theorem escd_find (t : List UInt8) (i : Nat) (h : i < t.length) : ∃ q, findP (partsL (qbs t)) (2 * i) = some q ∧ q ∈ partsL (qbs t) ∧ PI (qbs t) q (2 * i) ∧ q.mode = 13 ∧ toN q = 2 * i + 2 := by
  have hlen := qbs_len t
  have m1 : ((88 : UInt8), ((2 * i : Nat) : Int)) ∈ FT (qbs t) (2 * i + 1) := by rw [FT_of (Y := [(88, ((2 * i : Nat) : Int))]) (by rw [escd_mid t i h]; rfl)]; simp
  have h2 : FT (qbs t) (2 * i + 2) = [] := FT_of (Y := []) (by rw [show 2 * i + 2 = 2 * (i + 1) by omega, escd_at t (i + 1) (by omega)]; rfl)
  obtain ⟨q, hf, hm, hp, hmd, hto, _⟩ := find_shut (l := qbs t) (x := 2 * i) (e := 2 * i + 2) (c := 88) (by omega) (by omega) (alive_of m1) (by unfold Alive; rw [h2]; simp [pls]) m1 (by decide)
  exact ⟨q, hf, hm, hp, hmd, hto⟩
theorem escd_txt (t : List UInt8) : ∀ (m i : Nat), t.length - i = m → i ≤ t.length → TxT (qbs t) (partsL (qbs t)) (2 * i) (noNl (t.drop i))
  | 0, i, h, hi => by
    have : i = t.length := by omega
    subst this
    rw [List.drop_length]
    exact .stop (by rw [qbs_len]; omega)
  | m + 1, i, h, hi => by
    have hlt : i < t.length := by omega
    obtain ⟨q, hf, hm, hp, hmd, hto⟩ := escd_find t i hlt
    have ih := escd_txt t m (i + 1) (by omega) (by omega)
    have hs : sub (qbs t) (2 * i + 1) (toN q) = [t.getD i 0] := by rw [hto, ← (qbs_at t i hlt).2]; exact sub_one (x := 2 * i + 1) (by rw [qbs_len]; omega)
    have := TxT.esc (l := qbs t) (x := 2 * i) (by rw [qbs_len]; omega) hf (not_lone (by omega) (by omega)) hmd (by rw [hto]; exact ih)
    rw [hs] at this
    have e : noNl (t.drop i) = (if [t.getD i 0] = [10] then [] else [t.getD i 0]) ++ noNl (t.drop (i + 1)) := by
      rw [List.drop_eq_getElem_cons hlt, List.getD_eq_getElem?_getD, List.getElem?_eq_getElem hlt]
      show noNl (t[i] :: _) = (if [t[i]] = [10] then [] else [t[i]]) ++ _
      generalize t[i] = c
      unfold noNl
      by_cases h10 : c = 10
      · subst h10; simp
      · have h1 : c.toNat ≠ 10 := fun h => h10 (UInt8.toNat_inj.1 h)
        rw [if_neg (by simpa using h10), List.filter_cons_of_pos (by simpa using h1)]
        rfl
    rw [e]
    exact this
theorem escd_val (t : List UInt8) : valB (qbs t) = true ∧ valT (qbs t) = noNl t ∧ (partsL (qbs t)).any quB = decide (0 < t.length) := by
  have h := (escd_txt t t.length 0 rfl (by omega)).whole
  have hb : valB (qbs t) = true := by unfold valB; rw [h.2]; rfl
  refine ⟨hb, by unfold valT; rw [if_pos hb]; exact h.1, ?_⟩
  by_cases h0 : 0 < t.length
  · rw [decide_eq_true h0]
    obtain ⟨q, hf, hm, hp, hmd, hto⟩ := escd_find t 0 h0
    refine List.any_eq_true.2 ⟨q, hm, ?_⟩
    unfold quB
    rw [up_one (c := 88) hp (FT_of (Y := [(88, 0)]) (by have := escd_mid t 0 h0; exact this)), hmd]
    decide
  · rw [decide_eq_false h0]
    obtain rfl : t = [] := by cases t <;> simp_all
    rfl
/-! Between double quotes. -/
def dqe (t : List UInt8) : List UInt8 := t.flatMap fun c => if escB c = true then [92, c] else [c]
theorem dq_esc (f : Bool) (p a : Int) : (rStep [(68, p), (84, 0)] f 92 a).1 = [(88, a), (68, p), (84, 0)] := by simp [rStep, rPlain]
theorem dq_on (f : Bool) (p a : Int) (b : UInt8) (h : escB b = false) : (rStep [(68, p), (84, 0)] f b a).1 = [(68, p), (84, 0)] := by
  unfold escB at h
  simp at h
  simp [rStep, rPlain, h]
theorem dq_out (f : Bool) (p a : Int) : (rStep [(68, p), (84, 0)] f 34 a).1 = [(84, 0)] := by simp [rStep, rPlain]
theorem dq_in (f : Bool) (a : Int) : (rStep [(84, 0)] f 34 a).1 = [(68, a), (84, 0)] := by simp [rStep, rPlain, rProgram]
theorem dq_walk (l : List UInt8) (e : Nat) : ∀ (u pre post : List UInt8), l = pre ++ (dqe u ++ post) → 1 ≤ pre.length → e = pre.length + (dqe u).length → (rAt l pre.length).1 = [(68, 0), (84, 0)] →
    (rAt l e).1 = [(68, 0), (84, 0)] ∧ DbT l (partsL l) e pre.length u
  | [], pre, post, h, h1, he, hr => by
    have : e = pre.length := by simpa [dqe] using he
    subst this
    exact ⟨hr, .stop (Nat.le_refl _)⟩
  | c :: u, pre, post, h, h1, he, hr => by
    by_cases hc : escB c = true
    · have ed : dqe (c :: u) = 92 :: c :: dqe u := by simp [dqe, hc]
      rw [ed] at h he
      have he : e = pre.length + ((dqe u).length + 2) := by simpa using he
      have g0 : l.getD pre.length 0 = 92 := by have := getD_app pre (92 :: c :: dqe u ++ post) 0; rw [← h] at this; exact this
      have g1 : l.getD (pre.length + 1) 0 = c := by have := getD_app pre (92 :: c :: dqe u ++ post) 1; rw [← h] at this; exact this
      have r1 : (rAt l (pre.length + 1)).1 = [(88, (pre.length : Int)), (68, 0), (84, 0)] := by rw [rAt_1, hr, g0, dq_esc]
      have r2 : (rAt l (pre.length + 2)).1 = [(68, 0), (84, 0)] := by rw [rAt_1, r1, esc_out]
      have hlen : pre.length + 2 ≤ l.length := by rw [h]; simp
      obtain ⟨i1, i2⟩ := dq_walk l e u (pre ++ [92, c]) post (by rw [h]; simp) (by simp) (by simp; omega) (by simpa using r2)
      have f1 : FT l (pre.length + 1) = [(68, 0), (88, (pre.length : Int))] := FT_of (Y := [(88, (pre.length : Int)), (68, 0)]) (by rw [r1]; rfl)
      have f2 : FT l (pre.length + 2) = [(68, 0)] := FT_of (Y := [(68, 0)]) (by rw [r2]; rfl)
      have m1 : ((88 : UInt8), (pre.length : Int)) ∈ FT l (pre.length + 1) := by rw [f1]; simp
      obtain ⟨q, hf, hm, hp, hmd, hto, _⟩ := find_shut (l := l) (x := pre.length) (e := pre.length + 2) (c := 88) (by omega) hlen (alive_of m1) (by unfold Alive; rw [f2]; simp only [pls, List.map_cons, List.map_nil, List.mem_singleton]; omega) m1 (by decide)
      have hmd : q.mode = 13 := hmd
      refine ⟨i1, ?_⟩
      have := DbT.esc (l := l) (L := partsL l) (e := e) (x := pre.length) (t := u) (by omega) hf (by unfold loneB; simp; omega) hmd (by rw [hto]; simpa using i2)
      have ee : escT l q pre.length = [c] := by
        unfold escT
        rw [if_neg (by omega), g1, if_pos hc]
      rw [ee] at this
      exact this
    · have hc' : escB c = false := by simpa using hc
      have ed : dqe (c :: u) = c :: dqe u := by simp [dqe, hc]
      rw [ed] at h he
      have he : e = pre.length + ((dqe u).length + 1) := by simpa using he
      have g0 : l.getD pre.length 0 = c := by have := getD_app pre (c :: dqe u ++ post) 0; rw [← h] at this; exact this
      have r1 : (rAt l (pre.length + 1)).1 = [(68, 0), (84, 0)] := by rw [rAt_1, hr, g0, dq_on _ _ _ _ hc']
      obtain ⟨i1, i2⟩ := dq_walk l e u (pre ++ [c]) post (by rw [h]; simp) (by simp) (by simp; omega) (by simpa using r1)
      have f1 : FT l (pre.length + 1) = [(68, 0)] := FT_of (Y := [(68, 0)]) (by rw [r1]; rfl)
      refine ⟨i1, ?_⟩
      have := DbT.byte (l := l) (L := partsL l) (e := e) (x := pre.length) (t := u) (by omega) (find_dead (by unfold Alive; rw [f1]; simp only [pls, List.map_cons, List.map_nil, List.mem_singleton]; omega)) (by simpa using i2)
      rw [g0] at this
      exact this
theorem dq_keep {l : List UInt8} {k : Nat} (hk : 1 ≤ k) (h : Alive l 0 k) : Alive l 0 1 := alive_down h 1 (by omega) hk
theorem dq_val (t : List UInt8) : (valB (34 :: (dqe t ++ [34])) = true ∧ valT (34 :: (dqe t ++ [34])) = t) ∧ (valB (34 :: dqe t) = true ∧ valT (34 :: dqe t) = t) := by
  have key : ∀ l : List UInt8, TxT l (partsL l) 0 t → valB l = true ∧ valT l = t := by
    intro l h
    have h := h.whole
    have hb : valB l = true := by unfold valB; rw [h.2]; rfl
    exact ⟨hb, by unfold valT; rw [if_pos hb]; exact h.1⟩
  constructor
  · obtain ⟨l, hl⟩ : ∃ l, l = 34 :: (dqe t ++ [34]) := ⟨_, rfl⟩
    rw [← hl]
    refine key l ?_
    have hlen : l.length = (dqe t).length + 2 := by rw [hl]; simp
    have r1 : (rAt l 1).1 = [(68, 0), (84, 0)] := by rw [rAt_1, show l.getD 0 0 = 34 by rw [hl]; rfl]; exact dq_in _ _
    obtain ⟨i1, i2⟩ := dq_walk l ((dqe t).length + 1) t [34] [34] (by rw [hl]; rfl) (by simp) (by simp; omega) r1
    have r2 : (rAt l ((dqe t).length + 2)).1 = [(84, 0)] := by
      rw [rAt_1, i1, show l.getD ((dqe t).length + 1) 0 = 34 by rw [hl]; simp [List.getD_eq_getElem?_getD], dq_out]
    have m1 : ((68 : UInt8), ((0 : Nat) : Int)) ∈ FT l ((dqe t).length + 1) := by rw [FT_of (Y := [(68, 0)]) (by rw [i1]; rfl)]; simp
    obtain ⟨q, hf, hm, hp, hmd, hto, hop⟩ := find_shut (l := l) (x := 0) (e := (dqe t).length + 2) (c := 68) (by omega) (by omega) (alive_of m1) (by unfold Alive; rw [FT_of (Y := []) (by rw [r2]; rfl)]; simp [pls]) m1 (by decide)
    have hmd : q.mode = 5 := hmd
    have := TxT.double (l := l) (L := partsL l) (x := 0) (d := t) (t := []) (by omega) hf (not_lone (by omega) (by omega)) hmd (by unfold endQ; rw [hop, hto]; exact i2) (.stop (by omega))
    rwa [List.append_nil] at this
  · obtain ⟨l, hl⟩ : ∃ l, l = 34 :: dqe t := ⟨_, rfl⟩
    rw [← hl]
    refine key l ?_
    have hlen : l.length = (dqe t).length + 1 := by rw [hl]; simp
    have r1 : (rAt l 1).1 = [(68, 0), (84, 0)] := by rw [rAt_1, show l.getD 0 0 = 34 by rw [hl]; rfl]; exact dq_in _ _
    obtain ⟨i1, i2⟩ := dq_walk l ((dqe t).length + 1) t [34] [] (by rw [hl]; simp) (by simp) (by simp; omega) r1
    have m1 : ((68 : UInt8), ((0 : Nat) : Int)) ∈ FT l l.length := by rw [hlen, FT_of (Y := [(68, 0)]) (by rw [i1]; rfl)]; simp
    obtain ⟨q, hf, hm, hp, hmd, hto, hop⟩ := find_open (l := l) (x := 0) (c := 68) (by omega) (alive_of m1) m1 (by decide)
    have hmd : q.mode = 5 := hmd
    have := TxT.double (l := l) (L := partsL l) (x := 0) (d := t) (t := []) (by omega) hf (not_lone (by omega) (by omega)) hmd (by unfold endQ; rw [hop, if_pos rfl, hto, hlen]; exact i2) (.stop (by omega))
    rwa [List.append_nil] at this
end Go.Proofs.Ytjkiapgboljabaa
