/- A token hangs on what lies behind its place, and on the lexing ahead: where two texts are alike from two places on, so are their tokens. No program is in sight. -/
import Derived.Test.YtffngggdelmkpaaGreatDoorLa9
namespace Go.Proofs.YtffngggdelmkpaaGreatDoor
set_option linter.unusedVariables false
set_option linter.unusedSimpArgs false
set_option maxRecDepth 100000
/-- Two texts that are alike from two places on. -/
structure Tl (l l' : List UInt8) (x x' : Nat) : Prop where
  h : x ≤ l.length
  h' : x' ≤ l'.length
  e : l.drop x = l'.drop x'
theorem Tl.len {l l' : List UInt8} {x x' : Nat} (a : Tl l l' x x') : l.length - x = l'.length - x' := by
  have := congrArg List.length a.e
  simpa using this
theorem Tl.next {l l' : List UInt8} {x x' : Nat} (a : Tl l l' x x') {k : Nat} (hk : x + k ≤ l.length) : Tl l l' (x + k) (x' + k) :=
  ⟨hk, by have := a.len; have := a.h'; omega, by rw [← List.drop_drop, ← List.drop_drop, a.e]⟩
theorem Tl.get {l l' : List UInt8} {x x' : Nat} (a : Tl l l' x x') (k : Nat) : l'.getD (x' + k) 0 = l.getD (x + k) 0 := by rw [← getD_drop, ← getD_drop, a.e]
theorem Tl.get0 {l l' : List UInt8} {x x' : Nat} (a : Tl l l' x x') : l'.getD x' 0 = l.getD x 0 := a.get 0
theorem Tl.lt {l l' : List UInt8} {x x' : Nat} (a : Tl l l' x x') : x < l.length ↔ x' < l'.length := by have := a.len; have := a.h; have := a.h'; omega
theorem Tl.span {l l' : List UInt8} {x x' : Nat} (a : Tl l l' x x') (p : UInt8 → Bool) : spanL p l' x' = spanL p l x := by unfold spanL; rw [a.e]
theorem Tl.sub {l l' : List UInt8} {x x' : Nat} (a : Tl l l' x x') (n : Nat) : sub l' x' (x' + n) = sub l x (x + n) := by rw [sub_take' _ _ _ a.h', sub_take' _ _ _ a.h, a.e]
theorem Tl.line {l l' : List UInt8} {x x' : Nat} (a : Tl l l' x x') : ∃ n, lineN l x = x + n ∧ lineN l' x' = x' + n :=
  ⟨_, lineN_span l x, by rw [lineN_span, a.span]⟩
theorem Tl.lineE {l l' : List UInt8} {x x' : Nat} (a : Tl l l' x x') : ∃ n, lineE l x = x + n ∧ lineE l' x' = x' + n := by
  obtain ⟨n, h1, h2⟩ := a.line
  have h3 := a.len
  have h4 := a.h
  have h5 := a.h'
  unfold Go.Proofs.YtffngggdelmkpaaGreatDoor.lineE
  rw [h1, h2]
  by_cases h : x + n < l.length
  · rw [if_pos h, if_pos (by omega)]; exact ⟨n + 1, rfl, rfl⟩
  · rw [if_neg h, if_neg (by omega)]; exact ⟨n, rfl, rfl⟩
theorem Tl.here {l l' : List UInt8} (w : List UInt8) (t : Bool) : ∀ (m x x' : Nat), l.length - x = m → Tl l l' x x' → ∃ n, (hereL l x w t).1 = x + n ∧ (hereL l' x' w t).1 = x' + n ∧ (hereL l' x' w t).2 = (hereL l x w t).2 := by
  intro m
  induction m using Nat.strongRecOn with
  | _ m ih =>
    intro x x' hm a
    rw [hereL_eq l x, hereL_eq l' x']
    by_cases hx : x < l.length
    · rw [if_pos hx, if_pos (a.lt.1 hx)]
      obtain ⟨n, h1, h2⟩ := a.line
      obtain ⟨e, e1, e2⟩ := a.lineE
      have hs := a.sub n
      rw [← h1, ← h2] at hs
      rw [hs]
      by_cases hw : tabT t (Go.Proofs.YtffngggdelmkpaaGreatDoor.sub l x (lineN l x)) = w
      · rw [if_pos hw, if_pos hw]; exact ⟨e, e1, e2, rfl⟩
      · rw [if_neg hw, if_neg hw]
        have hle := lineE_le l x hx
        obtain ⟨k, k1, k2, k3⟩ := ih (l.length - Go.Proofs.YtffngggdelmkpaaGreatDoor.lineE l x) (by omega) (Go.Proofs.YtffngggdelmkpaaGreatDoor.lineE l x) (Go.Proofs.YtffngggdelmkpaaGreatDoor.lineE l' x') rfl (by rw [e1, e2]; exact a.next (by omega))
        exact ⟨e + k, by omega, by omega, k3⟩
    · rw [if_neg hx, if_neg (fun h => hx (a.lt.2 h))]; exact ⟨0, rfl, rfl, rfl⟩
theorem Tl.cont {l l' : List UInt8} {x x' : Nat} (a : Tl l l' x x') : contB l' x' = contB l x := by
  have h3 := a.len
  have h4 := a.h
  have h5 := a.h'
  unfold contB
  rw [a.get0, a.get 1, show decide (x' + 1 < l'.length) = decide (x + 1 < l.length) from decide_eq_decide.2 (by omega)]
theorem Tl.blank {l l' : List UInt8} : ∀ (m x x' : Nat), l.length - x = m → Tl l l' x x' → ∃ n, blankL l x = x + n ∧ blankL l' x' = x' + n := by
  intro m
  induction m using Nat.strongRecOn with
  | _ m ih =>
    intro x x' hm a
    rw [blankL_eq l x, blankL_eq l' x', a.get0, a.cont]
    by_cases hx : x < l.length
    · rw [if_pos hx, if_pos (a.lt.1 hx)]
      by_cases hb : blankB (l.getD x 0) = true
      · rw [if_pos hb, if_pos hb]
        obtain ⟨n, h1, h2⟩ := ih (l.length - (x + 1)) (by omega) (x + 1) (x' + 1) rfl (a.next (by omega))
        exact ⟨1 + n, by omega, by omega⟩
      · rw [if_neg hb, if_neg hb]
        by_cases hc : contB l x = true
        · have hc2 : x + 1 < l.length := by unfold contB at hc; simp at hc; exact hc.1.1
          rw [if_pos hc, if_pos hc]
          obtain ⟨n, h1, h2⟩ := ih (l.length - (x + 2)) (by omega) (x + 2) (x' + 2) rfl (a.next (by omega))
          exact ⟨2 + n, by omega, by omega⟩
        · rw [if_neg hc, if_neg hc]; exact ⟨0, rfl, rfl⟩
    · rw [if_neg hx, if_neg (fun h => hx (a.lt.2 h))]; exact ⟨0, rfl, rfl⟩
theorem Tl.op {l l' : List UInt8} {x x' : Nat} (a : Tl l l' x x') : opAt l' x' = opAt l x := by
  unfold opAt
  rw [a.get0, a.e, a.len]
theorem Tl.word {l l' : List UInt8} {x x' : Nat} (a : Tl l l' x x') : endL l' x' = endL l x := by
  unfold endL
  rw [show endStop l' x' = endStop l x from funext fun j => by unfold endStop; rw [a.e, a.get j], a.len]
theorem Tl.num {l l' : List UInt8} {x x' : Nat} (a : Tl l l' x x') : numB l' x' = numB l x := by
  have h3 := a.len
  have h4 := a.h
  have h5 := a.h'
  unfold numB digN
  rw [a.span, a.get, show decide (x' + spanL digB l x < l'.length) = decide (x + spanL digB l x < l.length) from decide_eq_decide.2 (by omega)]
/-- A token, moved as far as one place is from another one. -/
def mvT (d d' : Nat) (t : Tk) : Tk := ⟨t.kd, t.fr - d + d', t.to - d + d', t.op⟩
theorem mvT_at (d d' k x n : Nat) (o : Bool) (h : d ≤ x) : mvT d d' ⟨k, x, x + n, o⟩ = ⟨k, x - d + d', x - d + d' + n, o⟩ := by
  unfold mvT
  simp only [Tk.mk.injEq, true_and, and_true]
  omega
theorem Tl.plain {l l' : List UInt8} {x d d' : Nat} (h : d ≤ x) (a : Tl l l' x (x - d + d')) : plainL l' (x - d + d') = mvT d d' (plainL l x) := by
  unfold plainL
  rw [a.get0, a.cont, a.op, a.num, a.word]
  obtain ⟨n, h1, h2⟩ := Tl.blank _ x _ rfl a
  obtain ⟨m, m1, m2⟩ := a.line
  rw [h1, h2, m1, m2, a.sub, show digN l' (x - d + d') = digN l x from a.span digB]
  split
  · rw [mvT_at _ _ _ _ _ _ h]
  · split
    · rw [mvT_at _ _ _ _ _ _ h]
    · split
      · rw [mvT_at _ _ _ _ _ _ h]
      · split
        · rw [mvT_at _ _ _ _ _ _ h]
        · split
          · rw [mvT_at _ _ _ _ _ _ h]
          · rw [mvT_at _ _ _ _ _ _ h]
theorem Tl.step {l l' : List UInt8} {x d d' : Nat} (h : d ≤ x) (a : Tl l l' x (x - d + d')) (hx : x < l.length) (X : Lx) : stepL l' (x - d + d') X = (mvT d d' (stepL l x X).1, (stepL l x X).2) := by
  have hto := plainL_to l x hx
  unfold stepL
  split
  · rename_i e r _ _
    obtain ⟨n, h1, h2, h3⟩ := Tl.here e.1 e.2 _ x _ rfl a
    unfold docL
    rw [h3, h2, h1]
    split
    · rw [mvT_at _ _ _ _ _ _ h]
    · rw [mvT_at _ _ _ _ _ _ h]
  · rw [Tl.plain h a]
    obtain ⟨n, hn⟩ : ∃ n, (plainL l x).to = x + n := ⟨(plainL l x).to - x, by omega⟩
    have e1 : (mvT d d' (plainL l x)).to = x - d + d' + n := by show (plainL l x).to - d + d' = _; omega
    rw [e1, a.sub, hn]
    rfl
/-! The places of a text: each token, and the lexing ahead of it. -/
def plcF (l : List UInt8) : Nat → Nat → Lx → List (Tk × Lx)
  | 0, _, _ => []
  | m + 1, x, X => if x < l.length then ((stepL l x X).1, X) :: plcF l m (stepL l x X).1.to (stepL l x X).2 else []
theorem plcF_fuel (l : List UInt8) : ∀ (m m' x : Nat) (X : Lx), l.length < m + x → l.length < m' + x → plcF l m x X = plcF l m' x X
  | 0, m', x, X, h, h' => by
    cases m' with
    | zero => rfl
    | succ m' => unfold plcF; rw [if_neg (by omega)]
  | m + 1, 0, x, X, h, h' => by unfold plcF; rw [if_neg (by omega)]
  | m + 1, m' + 1, x, X, h, h' => by
    unfold plcF
    by_cases hx : x < l.length
    · have := stepL_to l x hx X
      rw [if_pos hx, if_pos hx, plcF_fuel l m m' _ _ (by omega) (by omega)]
    · rw [if_neg hx, if_neg hx]
def plcA (l : List UInt8) (x : Nat) (X : Lx) : List (Tk × Lx) := plcF l (l.length + 1 - x) x X
theorem plcA_eq (l : List UInt8) (x : Nat) (X : Lx) : plcA l x X = if x < l.length then ((stepL l x X).1, X) :: plcA l (stepL l x X).1.to (stepL l x X).2 else [] := by
  unfold plcA
  by_cases hx : x < l.length
  · obtain ⟨m, hm⟩ : ∃ m, l.length + 1 - x = m + 1 := ⟨l.length - x, by omega⟩
    have := stepL_to l x hx X
    rw [hm]
    show (if x < l.length then _ else _) = _
    rw [if_pos hx, if_pos hx, plcF_fuel l m (l.length + 1 - (stepL l x X).1.to) (stepL l x X).1.to (stepL l x X).2 (by omega) (by omega)]
  · rw [if_neg hx]
    by_cases h0 : l.length + 1 - x = 0
    · rw [h0]; rfl
    · obtain ⟨m, hm⟩ : ∃ m, l.length + 1 - x = m + 1 := ⟨l.length + 1 - x - 1, by omega⟩
      rw [hm]
      show (if x < l.length then _ else _) = _
      rw [if_neg hx]
theorem plc_ind {P : Nat → Lx → Prop} (l : List UInt8) (h0 : ∀ x X, ¬ x < l.length → P x X) (h1 : ∀ x X, x < l.length → P (stepL l x X).1.to (stepL l x X).2 → P x X) : ∀ x X, P x X := by
  suffices h : ∀ m x X, l.length - x = m → P x X from fun x X => h _ x X rfl
  intro m
  induction m using Nat.strongRecOn with
  | _ m ih =>
    intro x X hm
    by_cases hx : x < l.length
    · have := stepL_to l x hx X
      exact h1 x X hx (ih _ (by omega) _ _ rfl)
    · exact h0 x X hx
theorem plc_lex (l : List UInt8) : ∀ x X, (lexA l x X).1 = (plcA l x X).map Prod.fst :=
  plc_ind l (fun x X h => by rw [lexA_eq, plcA_eq, if_neg h, if_neg h]; rfl) (fun x X h ih => by rw [lexA_eq, plcA_eq, if_pos h, if_pos h]; simp [ih])
/-- Of two texts that are alike from two places on, the places there and the lexing behind them. -/
theorem Tl.plc {l l' : List UInt8} {d d' : Nat} : ∀ (x : Nat) (X : Lx), d ≤ x → Tl l l' x (x - d + d') → plcA l' (x - d + d') X = (plcA l x X).map (fun p => (mvT d d' p.1, p.2)) ∧ (lexA l' (x - d + d') X).2 = (lexA l x X).2 :=
  plc_ind l (fun x X hx h a => by
      have hx' : ¬ x - d + d' < l'.length := fun h => hx (a.lt.2 h)
      rw [plcA_eq, plcA_eq l, lexA_eq, lexA_eq l, if_neg hx, if_neg hx, if_neg hx', if_neg hx']; exact ⟨rfl, rfl⟩)
    (fun x X hx ih h a => by
      have hx' := a.lt.1 hx
      have hto := stepL_to l x hx X
      have hs := a.step h hx X
      rw [plcA_eq, plcA_eq l, lexA_eq, lexA_eq l, if_pos hx, if_pos hx, if_pos hx', if_pos hx', hs]
      have e1 : (mvT d d' (stepL l x X).1).to = (stepL l x X).1.to - d + d' := rfl
      have ih := ih (by omega) (by
        have := a.next (k := (stepL l x X).1.to - x) (by omega)
        rwa [show x + ((stepL l x X).1.to - x) = (stepL l x X).1.to by omega, show x - d + d' + ((stepL l x X).1.to - x) = (stepL l x X).1.to - d + d' by omega] at this)
      simp only [e1, ih.1, ih.2, List.map_cons, and_self])
end Go.Proofs.YtffngggdelmkpaaGreatDoor
/- What an edit keeps of a text's places, and what is found anew. No program is in sight. -/
namespace Go.Proofs.YtffngggdelmkpaaGreatDoor
set_option linter.unusedVariables false
set_option linter.unusedSimpArgs false
set_option maxRecDepth 100000
/-- The place and the lexing behind so many tokens. -/
def stF (l : List UInt8) : Nat → Nat → Lx → Nat × Lx
  | 0, x, X => (x, X)
  | k + 1, x, X => if x < l.length then stF l k (stepL l x X).1.to (stepL l x X).2 else (x, X)
theorem stF_succ (l : List UInt8) : ∀ k x X, (stF l k x X).1 < l.length → stF l (k + 1) x X = ((stepL l (stF l k x X).1 (stF l k x X).2).1.to, (stepL l (stF l k x X).1 (stF l k x X).2).2)
  | 0, x, X, h => by
    have h : x < l.length := h
    unfold stF
    rw [if_pos h]
    rfl
  | k + 1, x, X, h => by
    unfold stF at h ⊢
    by_cases hx : x < l.length
    · rw [if_pos hx] at h ⊢
      rw [if_pos hx]
      exact stF_succ l k _ _ h
    · rw [if_neg hx] at h
      exact absurd h hx
theorem plc_split (l : List UInt8) : ∀ k x X, plcA l x X = (plcA l x X).take k ++ plcA l (stF l k x X).1 (stF l k x X).2 ∧ (lexA l x X).2 = (lexA l (stF l k x X).1 (stF l k x X).2).2
  | 0, x, X => ⟨by simp [stF], rfl⟩
  | k + 1, x, X => by
    unfold stF
    by_cases hx : x < l.length
    · rw [if_pos hx]
      obtain ⟨h1, h2⟩ := plc_split l k (stepL l x X).1.to (stepL l x X).2
      rw [plcA_eq l x X, if_pos hx, lexA_eq l x X, if_pos hx, List.take_succ_cons, List.cons_append, ← h1]
      exact ⟨rfl, h2⟩
    · rw [if_neg hx, plcA_eq l x X, if_neg hx]
      exact ⟨by simp, rfl⟩
theorem plc_drop (l : List UInt8) (k x : Nat) (X : Lx) (h : k ≤ (plcA l x X).length) : (plcA l x X).drop k = plcA l (stF l k x X).1 (stF l k x X).2 := by
  have h1 := (plc_split l k x X).1
  have h2 := List.take_append_drop k (plcA l x X)
  exact List.append_cancel_left (h2.trans h1)
theorem plc_get {l : List UInt8} {k x : Nat} {X : Lx} {p : Tk × Lx} (h : (plcA l x X)[k]? = some p) : (stF l k x X).1 < l.length ∧ p = ((stepL l (stF l k x X).1 (stF l k x X).2).1, (stF l k x X).2) := by
  have hk : k < (plcA l x X).length := (List.getElem?_eq_some_iff.1 h).1
  have h1 := plc_drop l k x X (by omega)
  have h2 : ((plcA l x X).drop k)[0]? = some p := by rw [List.getElem?_drop]; exact h
  rw [h1, plcA_eq] at h2
  by_cases hx : (stF l k x X).1 < l.length
  · rw [if_pos hx] at h2
    injection h2 with h2
    exact ⟨hx, h2.symm⟩
  · rw [if_neg hx] at h2; cases h2
/-- What the places of a text are like. -/
theorem plc_mem (l : List UInt8) : ∀ x X, ∀ p ∈ plcA l x X, x ≤ p.1.fr ∧ p.1.fr < p.1.to ∧ p.1.to ≤ l.length :=
  plc_ind l (fun x X h p hp => by rw [plcA_eq, if_neg h] at hp; cases hp) (fun x X h ih p hp => by
    have hto := stepL_to l x h X
    rw [plcA_eq, if_pos h] at hp
    rcases List.mem_cons.1 hp with rfl | hp
    · exact ⟨by show x ≤ (stepL l x X).1.fr; omega, by show (stepL l x X).1.fr < (stepL l x X).1.to; omega, hto.2.2.1⟩
    · have := ih p hp
      exact ⟨by omega, this.2⟩)
theorem plc_mono {l : List UInt8} {x : Nat} {X : Lx} {i j : Nat} {p q : Tk × Lx} (hi : (plcA l x X)[i]? = some p) (hj : (plcA l x X)[j]? = some q) (hij : i < j) : p.1.to ≤ q.1.fr := by
  have hi2 := plc_get hi
  have hil : i < (plcA l x X).length := (List.getElem?_eq_some_iff.1 hi).1
  have h1 := plc_drop l i x X (by omega)
  have h2 : ((plcA l x X).drop i)[j - i]? = some q := by rw [List.getElem?_drop, show i + (j - i) = j by omega]; exact hj
  rw [h1, plcA_eq, if_pos hi2.1, show j - i = (j - i - 1) + 1 by omega, List.getElem?_cons_succ] at h2
  have := (plc_mem l _ _ q (List.mem_of_getElem? h2)).1
  rw [hi2.2]
  exact this
theorem plc_fr {l : List UInt8} {x : Nat} {X : Lx} {i : Nat} {p : Tk × Lx} (hi : (plcA l x X)[i]? = some p) : p.1.fr = (stF l i x X).1 ∧ p.2 = (stF l i x X).2 := by
  obtain ⟨h1, h2⟩ := plc_get hi
  have := stepL_to l _ h1 (stF l i x X).2
  rw [h2]
  exact ⟨this.1, rfl⟩
theorem plc_lt {l : List UInt8} {x : Nat} {X : Lx} {i j : Nat} {p q : Tk × Lx} (hi : (plcA l x X)[i]? = some p) (hj : (plcA l x X)[j]? = some q) (h : p.1.fr ≤ q.1.fr) : i ≤ j := by
  have h1 := plc_mem l _ _ p (List.mem_of_getElem? hi)
  refine Nat.le_of_not_lt fun h3 => ?_
  have h2 := plc_mem l _ _ q (List.mem_of_getElem? hj)
  have := plc_mono hj hi h3
  omega
/-- The tokens that end two bytes ahead of where two texts part are in both. -/
theorem Ag.plc {n : Nat} {l l' : List UInt8} (a : Ag n l l') : ∀ k x X, (∀ i p, i < k → (plcA l x X)[i]? = some p → p.1.to + 2 ≤ n) → k ≤ (plcA l x X).length → x ≤ l'.length →
    plcA l' x X = (plcA l x X).take k ++ plcA l' (stF l k x X).1 (stF l k x X).2 ∧ (lexA l' x X).2 = (lexA l' (stF l k x X).1 (stF l k x X).2).2 ∧ (stF l k x X).1 ≤ l'.length
  | 0, x, X, _, _, hx' => ⟨by simp [stF], rfl, hx'⟩
  | k + 1, x, X, h, hk, hx' => by
    have h1 := a.h
    have h2 := a.h'
    by_cases hx : x < l.length
    · have hto := stepL_to l x hx X
      rw [plcA_eq l x X, if_pos hx] at h hk ⊢
      have ht := h 0 _ (by omega) rfl
      have ht : (stepL l x X).1.to + 2 ≤ n := ht
      have hs := a.step hx X ht
      have hx2 : x < l'.length := by omega
      obtain ⟨i1, i2, i3⟩ := Ag.plc a k (stepL l x X).1.to (stepL l x X).2 (fun i p hi hp => h (i + 1) p (by omega) (by rw [List.getElem?_cons_succ]; exact hp)) (by simpa using hk) (by omega)
      unfold stF
      rw [if_pos hx, plcA_eq l' x X, if_pos hx2, lexA_eq l' x X, if_pos hx2, hs, List.take_succ_cons, List.cons_append, ← i1]
      exact ⟨rfl, i2, i3⟩
    · rw [plcA_eq, if_neg hx] at hk; simp at hk
/-! An edit. -/
structure Ed where
  a : List UInt8
  d : List UInt8
  i : List UInt8
  c : List UInt8
def Ed.old (e : Ed) : List UInt8 := e.a ++ (e.d ++ e.c)
def Ed.new (e : Ed) : List UInt8 := e.a ++ (e.i ++ e.c)
theorem Ed.ag (e : Ed) : Ag e.a.length e.old e.new := Ag.app e.a (e.d ++ e.c) (e.i ++ e.c)
theorem Ed.tl (e : Ed) {x : Nat} (h : e.a.length + e.d.length ≤ x) (hx : x ≤ e.old.length) : Tl e.old e.new x (x - e.d.length + e.i.length) := by
  obtain ⟨k, rfl⟩ : ∃ k, x = e.a.length + e.d.length + k := ⟨x - (e.a.length + e.d.length), by omega⟩
  unfold Ed.old at hx
  simp only [List.length_append] at hx
  refine ⟨by unfold Ed.old; simp only [List.length_append]; omega, by unfold Ed.new; simp only [List.length_append]; omega, ?_⟩
  unfold Ed.old Ed.new
  rw [← List.append_assoc, ← List.append_assoc, show e.a.length + e.d.length + k - e.d.length + e.i.length = e.a.length + e.i.length + k by omega,
    ← List.length_append, ← List.length_append, ← List.drop_drop, ← List.drop_drop, List.drop_left, List.drop_left]
abbrev plcs (l : List UInt8) : List (Tk × Lx) := plcA l 0 lx0
/-- How many tokens end two bytes ahead of a place, or farther. -/
def hdN (l : List UInt8) (a : Nat) : Nat := ((plcs l).takeWhile fun p => decide (p.1.to + 2 ≤ a)).length
theorem tw_get {α : Type} (p : α → Bool) : ∀ (L : List α) (i : Nat) (y : α), i < (L.takeWhile p).length → L[i]? = some y → p y = true
  | [], i, y, h, _ => by simp at h
  | b :: L, i, y, h, hy => by
    by_cases hb : p b = true
    · rw [List.takeWhile_cons, if_pos hb] at h
      cases i with
      | zero => simp at hy; subst hy; exact hb
      | succ i => exact tw_get p L i y (by simpa using h) (by simpa using hy)
    · rw [List.takeWhile_cons, if_neg hb] at h; simp at h
theorem tw_end {α : Type} (p : α → Bool) : ∀ (L : List α) (y : α), L[(L.takeWhile p).length]? = some y → p y = false
  | [], y, hy => by simp at hy
  | b :: L, y, hy => by
    by_cases hb : p b = true
    · rw [List.takeWhile_cons, if_pos hb] at hy
      exact tw_end p L y (by simpa using hy)
    · rw [List.takeWhile_cons, if_neg hb] at hy
      simp at hy
      subst hy
      simpa using hb
theorem hdN_le (l : List UInt8) (a : Nat) : hdN l a ≤ (plcs l).length := (List.takeWhile_prefix _).length_le
theorem hdN_get {l : List UInt8} {a i : Nat} {p : Tk × Lx} (h : (plcs l)[i]? = some p) : p.1.to + 2 ≤ a ↔ i < hdN l a := by
  constructor
  · intro hp
    refine Nat.lt_of_not_le fun hi => ?_
    have hlt : hdN l a < (plcs l).length := Nat.lt_of_le_of_lt hi (List.getElem?_eq_some_iff.1 h).1
    obtain ⟨q, hq⟩ : ∃ q, (plcs l)[hdN l a]? = some q := ⟨_, List.getElem?_eq_getElem hlt⟩
    have h1 := tw_end _ _ q hq
    simp only [decide_eq_false_iff_not] at h1
    rcases Nat.lt_or_ge (hdN l a) i with h2 | h2
    · have h3 := plc_mono hq h h2
      have h4 := plc_mem l _ _ p (List.mem_of_getElem? h)
      omega
    · obtain rfl : i = hdN l a := by omega
      rw [h] at hq
      injection hq with hq
      rw [← hq] at h1
      exact h1 hp
  · intro hi
    have := tw_get _ _ i p hi h
    simpa using this
/-- Where the tokens are found anew from, and the lexing there. -/
abbrev rstL (l : List UInt8) (n : Nat) : Nat × Lx := stF l n 0 lx0
theorem Ed.head (e : Ed) : plcs e.new = (plcs e.old).take (hdN e.old e.a.length) ++ plcA e.new (rstL e.old (hdN e.old e.a.length)).1 (rstL e.old (hdN e.old e.a.length)).2 ∧
    (lexL e.new).2 = (lexA e.new (rstL e.old (hdN e.old e.a.length)).1 (rstL e.old (hdN e.old e.a.length)).2).2 ∧ (rstL e.old (hdN e.old e.a.length)).1 ≤ e.new.length :=
  e.ag.plc _ 0 lx0 (fun i p hi hp => (hdN_get hp).2 hi) (hdN_le _ _) (Nat.zero_le _)
/-- A token of the old text, and one of the new text, from which on all is alike. -/
structure Mt (e : Ed) (i j : Nat) : Prop where
  w : ∃ p q, (plcs e.old)[i]? = some p ∧ (plcs e.new)[j]? = some q ∧ e.a.length + e.d.length ≤ p.1.fr ∧ q.1.fr = p.1.fr - e.d.length + e.i.length ∧ p.2 = q.2
theorem Mt.mono {e : Ed} {i j i' j' : Nat} (h : Mt e i j) (h' : Mt e i' j') (hj : j ≤ j') : i ≤ i' := by
  obtain ⟨p, q, h1, h2, h3, h4, h5⟩ := h.w
  obtain ⟨p', q', g1, g2, g3, g4, g5⟩ := h'.w
  refine plc_lt h1 g1 ?_
  rcases Nat.eq_or_lt_of_le hj with rfl | hj
  · rw [h2] at g2
    injection g2 with g2
    rw [g2] at h4
    omega
  · have := plc_mono h2 g2 hj
    have := plc_mem e.new _ _ q (List.mem_of_getElem? h2)
    omega
/-- Behind it the places are the old ones, moved; and so is the lexing behind all. -/
theorem Mt.tail {e : Ed} {i j : Nat} (h : Mt e i j) : (plcs e.new).drop j = ((plcs e.old).drop i).map (fun p => (mvT e.d.length e.i.length p.1, p.2)) ∧ (lexL e.new).2 = (lexL e.old).2 ∧
    (∀ p ∈ (plcs e.old).drop i, e.d.length ≤ p.1.fr ∧ e.d.length ≤ p.1.to) := by
  obtain ⟨p, q, h1, h2, h3, h4, h5⟩ := h.w
  obtain ⟨a1, a2⟩ := plc_get h1
  obtain ⟨b1, b2⟩ := plc_fr h1
  obtain ⟨c1, c2⟩ := plc_fr h2
  have hi : i < (plcs e.old).length := (List.getElem?_eq_some_iff.1 h1).1
  have hj : j < (plcs e.new).length := (List.getElem?_eq_some_iff.1 h2).1
  have hd := plc_drop e.old i 0 lx0 (Nat.le_of_lt hi)
  have hx : p.1.fr ≤ e.old.length := by have := plc_mem e.old _ _ p (List.mem_of_getElem? h1); omega
  have ht := Tl.plc (l := e.old) (l' := e.new) (d := e.d.length) (d' := e.i.length) p.1.fr p.2 (by omega) (e.tl h3 hx)
  have hs := (plc_split e.old i 0 lx0).2
  have hs' := (plc_split e.new j 0 lx0).2
  rw [← b1, ← b2] at hd hs
  rw [← c1, ← c2, h4, ← h5] at hs'
  refine ⟨?_, ?_, ?_⟩
  · rw [plc_drop e.new j 0 lx0 (Nat.le_of_lt hj), ← c1, ← c2, h4, ← h5, ht.1, hd]
  · exact hs'.trans (ht.2.trans hs.symm)
  · intro r hr
    rw [show (plcs e.old).drop i = plcA e.old p.1.fr p.2 from hd] at hr
    have := plc_mem e.old _ _ r hr
    omega
/-- How many tokens are kept at the end. -/
structure TailP (e : Ed) (T : Nat) : Prop where
  w : (T = 0 ∧ ∀ i j, ¬ Mt e i j) ∨ ∃ i j, Mt e i j ∧ (∀ i' j', Mt e i' j' → i ≤ i') ∧ T = (plcs e.old).length - i
theorem TailP.none {e : Ed} (h : ∀ j, j < (plcs e.new).length → ∀ i, ¬ Mt e i j) : TailP e 0 :=
  ⟨.inl ⟨rfl, fun i j hm => by
    obtain ⟨p, q, h1, h2, _⟩ := hm.w
    exact h j (List.getElem?_eq_some_iff.1 h2).1 i hm⟩⟩
theorem TailP.some {e : Ed} {i j : Nat} (hm : Mt e i j) (h : ∀ j', j' < j → ∀ i', ¬ Mt e i' j') : TailP e ((plcs e.old).length - i) :=
  ⟨.inr ⟨i, j, hm, fun i' j' hm' => hm.mono hm' (Nat.le_of_not_lt fun hj => h j' hj i' hm'), rfl⟩⟩
end Go.Proofs.YtffngggdelmkpaaGreatDoor
