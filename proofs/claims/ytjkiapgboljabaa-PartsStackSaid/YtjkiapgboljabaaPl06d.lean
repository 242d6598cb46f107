/- Plain laws of a word's end: it hangs on the letters alone, not on the places. No program is in sight. -/
import Derived.Test.YtjkiapgboljabaaPl06c
namespace Go.Proofs.Ytjkiapgboljabaa
set_option linter.unusedVariables false
set_option linter.unusedSimpArgs false
set_option maxRecDepth 100000
/-- Does a word end ahead of c, over this stack? -/
def endB (st : Stk) (c : UInt8) : Bool :=
  endsB c && (match st with
    | [_] => true
    | [(d, _), _] => decide (d.toNat = 76) && decide (c.toNat ≠ 40)
    | _ => false)
/-- The first place from k on at which stop holds; behind m places none. -/
def endF (stop : Nat → Bool) : Nat → Nat → Nat
  | 0, k => k
  | m + 1, k => if stop k = true then k else endF stop m (k + 1)
theorem endF_stop {stop : Nat → Bool} {m k : Nat} (h : stop k = true) : endF stop m k = k := by
  cases m with
  | zero => rfl
  | succ m => simp [endF, h]
theorem endF_go {stop : Nat → Bool} {m k : Nat} (h : stop k = false) (hm : 0 < m) : endF stop m k = endF stop (m - 1) (k + 1) := by
  cases m with
  | zero => omega
  | succ m => simp [endF, h]
theorem endF_congr {s1 s2 : Nat → Bool} : ∀ (m k : Nat), (∀ j, k ≤ j → j < k + m → s1 j = s2 j) → endF s1 m k = endF s2 m k
  | 0, _, _ => rfl
  | m + 1, k, h => by
    simp only [endF]
    rw [h k (Nat.le_refl _) (by omega), endF_congr m (k + 1) (fun j h1 h2 => h j (by omega) (by omega))]
abbrev Lt (st : Stk) : List UInt8 := st.map (·.1)
def LR (x y : Stk × Bool) : Prop := Lt x.1 = Lt y.1 ∧ x.2 = y.2
theorem ite_rel {α : Type} (R : α → α → Prop) {c : Prop} [Decidable c] {a b a' b' : α} (h1 : c → R a a') (h2 : ¬ c → R b b') : R (if c then a else b) (if c then a' else b') := by
  by_cases h : c
  · rw [if_pos h, if_pos h]; exact h1 h
  · rw [if_neg h, if_neg h]; exact h2 h
theorem Lt_tail {st st' : Stk} (h : Lt st = Lt st') : Lt st.tail = Lt st'.tail := by
  simp only [Lt, List.map_tail]
  exact congrArg List.tail h
theorem rProgram_l {st st' : Stk} (h : Lt st = Lt st') (f : Bool) (c b : UInt8) (p q : Int) : LR (rProgram st f c b p) (rProgram st' f c b q) := by
  unfold rProgram
  repeat' (refine ite_rel LR (fun _ => ?_) (fun _ => ?_))
  all_goals first
    | exact ⟨h, rfl⟩
    | exact ⟨Lt_tail h, rfl⟩
    | exact ⟨congrArg (List.cons _) h, rfl⟩
theorem rPlain_l {st st' : Stk} (h : Lt st = Lt st') (f : Bool) (c b : UInt8) (p q : Int) : LR (rPlain st f c b p) (rPlain st' f c b q) := by
  unfold rPlain
  repeat' (refine ite_rel LR (fun _ => ?_) (fun _ => ?_))
  all_goals first
    | exact rProgram_l h _ _ _ _ _
    | exact ⟨h, rfl⟩
    | exact ⟨Lt_tail h, rfl⟩
    | exact ⟨congrArg (List.cons _) h, rfl⟩
    | (refine ⟨?_, rfl⟩
       cases st <;> cases st' <;> simp_all [Lt])
theorem rStep_l {st st' : Stk} (h : Lt st = Lt st') (f : Bool) (b : UInt8) (p q : Int) : LR (rStep st f b p) (rStep st' f b q) := by
  match st, st', h with
  | [], [], _ => exact ⟨rfl, rfl⟩
  | [], (_ :: _), h => simp [Lt] at h
  | (_ :: _), [], h => simp [Lt] at h
  | (c, x) :: r, (c', x') :: r', h =>
    simp only [Lt, List.map_cons, List.cons.injEq] at h
    obtain ⟨rfl, hr⟩ := h
    have hc : Lt ((c, x) :: r) = Lt ((c, x') :: r') := by simp [Lt, hr]
    unfold rStep
    refine ite_rel LR (fun _ => ?_) (fun _ => ?_)
    · refine ite_rel LR (fun _ => ⟨by simp [Lt, hr], rfl⟩) (fun _ => ?_)
      refine ite_rel LR (fun _ => ?_) (fun _ => ?_)
      · match r, r', hr with
        | [], [], _ => exact ⟨rfl, rfl⟩
        | [], (_ :: _), hr => simp at hr
        | (_ :: _), [], hr => simp at hr
        | (d, y) :: r2, (d', y') :: r2', hr =>
          simp only [List.map_cons, List.cons.injEq] at hr
          obtain ⟨rfl, hr⟩ := hr
          exact ite_rel LR (fun _ => ⟨by simp [Lt, hr], rfl⟩) (fun _ => ⟨by simp [Lt, hr], rfl⟩)
      · refine ite_rel LR (fun _ => ⟨hr, rfl⟩) (fun _ => ?_)
        match r, r', hr with
        | [], [], _ => exact ⟨rfl, rfl⟩
        | [], (_ :: _), hr => simp at hr
        | (_ :: _), [], hr => simp at hr
        | (d, y) :: r2, (d', y') :: r2', hr =>
          have hr' := hr
          simp only [List.map_cons, List.cons.injEq] at hr
          obtain ⟨rfl, _⟩ := hr
          exact rPlain_l hr' _ _ _ _ _
    · refine ite_rel LR (fun _ => ?_) (fun _ => ?_)
      · exact ite_rel LR (fun _ => ⟨by simp [Lt, hr], rfl⟩) (fun _ => rPlain_l (by simp [Lt, hr]) _ _ _ _ _)
      · refine ite_rel LR (fun _ => ?_) (fun _ => rPlain_l hc _ _ _ _ _)
        exact ite_rel LR (fun _ => ⟨hr, rfl⟩) (fun _ => rPlain_l (by simp [Lt, hr]) _ _ _ _ _)
/-- The reference's machine from a place on, with that text's own places. -/
def rFrom (l : List UInt8) (a : Nat) : Nat → Stk × Bool
  | 0 => ([(84, 0)], true)
  | k + 1 => rStep (rFrom l a k).1 (rFrom l a k).2 (l.getD (a + k) 0) ((a + k : Nat) : Int)
theorem rFrom_l (l : List UInt8) (a : Nat) : ∀ k, LR (rFrom l a k) (rAt (l.drop a) k)
  | 0 => ⟨rfl, rfl⟩
  | k + 1 => by
    have ih := rFrom_l l a k
    have e : (l.drop a).getD k 0 = l.getD (a + k) 0 := by
      rw [List.getD_eq_getElem?_getD, List.getD_eq_getElem?_getD, List.getElem?_drop]
    simp only [rFrom, rAt]
    rw [e, ← ih.2]
    exact rStep_l ih.1 _ _ _ _
theorem rFrom_bot (l : List UInt8) (a : Nat) : ∀ k, Bot (rFrom l a k).1
  | 0 => rfl
  | k + 1 => rStep_bot _ _ _ _ (rFrom_bot l a k)
theorem rFrom_len (l : List UInt8) (a : Nat) : ∀ k, (rFrom l a k).1.length ≤ k + 1
  | 0 => by simp [rFrom]
  | k + 1 => by
    have h1 := rStep_len (rFrom l a k).1 (rFrom l a k).2 (l.getD (a + k) 0) ((a + k : Nat) : Int)
    have h2 := rFrom_len l a k
    simp only [rFrom]
    omega
theorem endB_l {st st' : Stk} (h : Lt st = Lt st') (c : UInt8) : endB st c = endB st' c := by
  unfold endB
  congr 1
  match st, st', h with
  | [], [], _ => rfl
  | [_], [_], _ => rfl
  | [(d, _), _], [(d', _), _], h =>
    simp [Lt] at h
    simp [h.1]
  | (_ :: _ :: _ :: _), (_ :: _ :: _ :: _), _ => rfl
  | [], (_ :: _), h => simp [Lt] at h
  | (_ :: _), [], h => simp [Lt] at h
  | [_], (_ :: _ :: _), h => simp [Lt] at h
  | (_ :: _ :: _), [_], h => simp [Lt] at h
  | [_, _], (_ :: _ :: _ :: _), h => simp [Lt] at h
  | (_ :: _ :: _ :: _), [_, _], h => simp [Lt] at h
end Go.Proofs.Ytjkiapgboljabaa
