/- Plain laws of quotes: fresh holds in programs alone; a text between quotes leaves the stack as it was. No program is in sight. -/
import Derived.Test.YtjkiapgboljabaaPl06d
namespace Go.Proofs.Ytjkiapgboljabaa
set_option linter.unusedVariables false
set_option linter.unusedSimpArgs false
set_option maxRecDepth 100000
def Tcp (c : UInt8) : Prop := c.toNat = 84 ∨ c.toNat = 67 ∨ c.toNat = 80
def Hd (st : Stk) : Prop := ∀ c p r, st = (c, p) :: r → Tcp c
/-- Fresh may hold over this stack. -/
def FO (st : Stk) : Prop := ∀ c p r, st = (c, p) :: r → Tcp c ∨ c.toNat = 79 ∨ ((c.toNat = 88 ∨ c.toNat = 35) ∧ Hd r)
/-- Below a parenthesis and below a comment lies a program. -/
def AO : Stk → Prop
  | [] => True
  | (c, _) :: r => ((c.toNat = 80 ∨ c.toNat = 35) → Hd r) ∧ AO r
def FInv (x : Stk × Bool) : Prop := AO x.1 ∧ (x.2 = true → FO x.1)
theorem Hd.fo {st : Stk} (h : Hd st) : FO st := fun c p r e => .inl (h c p r e)
theorem Hd.of {c : UInt8} {p : Int} {r : Stk} (h : Tcp c) : Hd ((c, p) :: r) := by
  rintro _ _ _ ⟨rfl, rfl⟩; exact h
theorem FO.x {c : UInt8} {p : Int} {r : Stk} (h : c.toNat = 88 ∨ c.toNat = 35) (hr : Hd r) : FO ((c, p) :: r) := by
  rintro _ _ _ ⟨rfl, rfl⟩; exact .inr (.inr ⟨h, hr⟩)
theorem AO.push {c : UInt8} {p : Int} {r : Stk} (h : c.toNat ≠ 80 ∧ c.toNat ≠ 35) (hr : AO r) : AO ((c, p) :: r) := ⟨fun h' => by omega, hr⟩
theorem AO.pushP {c : UInt8} {p : Int} {r : Stk} (h : Hd r) (hr : AO r) : AO ((c, p) :: r) := ⟨fun _ => h, hr⟩
theorem rProgram_f (r : Stk) (f : Bool) (c b : UInt8) (p at_ : Int) (hc : Tcp c) (h : AO ((c, p) :: r)) : FInv (rProgram ((c, p) :: r) f c b at_) := by
  have h1 : Hd ((c, p) :: r) := Hd.of hc
  unfold rProgram
  repeat' (refine ite_ok FInv (fun _ => ?_) (fun _ => ?_))
  all_goals first
    | exact ⟨h, fun _ => h1.fo⟩
    | exact ⟨AO.push (by decide) h, fun _ => FO.x (by decide) h1⟩
    | exact ⟨AO.push (by decide) h, fun e => by cases e⟩
    | exact ⟨AO.pushP h1 h, fun _ => FO.x (by decide) h1⟩
    | exact ⟨AO.pushP h1 h, fun _ => (Hd.of (by right; right; rfl)).fo⟩
    | exact ⟨h.2, fun e => (h.1 (.inl (by simpa using e))).fo⟩
theorem rPlain_f (r : Stk) (f : Bool) (c b : UInt8) (p at_ : Int) (h79 : f = true → c.toNat ≠ 79) (h : AO ((c, p) :: r)) (hf : f = true → FO ((c, p) :: r)) : FInv (rPlain ((c, p) :: r) f c b at_) := by
  unfold rPlain
  refine ite_ok FInv (fun hc => rProgram_f _ _ _ _ _ _ hc h) (fun hn => ?_)
  have hx : f = true → (c.toNat = 88 ∨ c.toNat = 35) ∧ Hd r := fun e => by
    rcases hf e c p r rfl with h1 | h1 | h1
    · exact absurd h1 hn
    · exact absurd h1 (h79 e)
    · exact h1
  refine ite_ok FInv (fun hc => ⟨h.2, fun e => ?_⟩) (fun h88 => ?_)
  · by_cases hb : b.toNat = 10
    · simp only [hb, if_true] at e; exact (hx e).2.fo
    · simp [hb] at e
  refine ite_ok FInv (fun hc => ?_) (fun h83 => ?_)
  · have hff : f = false := by cases f; rfl; have := (hx rfl).1; omega
    subst hff
    exact ite_ok FInv (fun _ => ⟨h.2, fun e => by cases e⟩) (fun _ => ⟨h, fun e => by cases e⟩)
  refine ite_ok FInv (fun hc => ?_) (fun h35 => ?_)
  · exact ite_ok FInv (fun _ => ⟨h.2, fun _ => (h.1 (.inr hc)).fo⟩) (fun _ => ⟨h, hf⟩)
  have hff : f = false := by cases f; rfl; have := (hx rfl).1; omega
  subst hff
  repeat' (refine ite_ok FInv (fun _ => ?_) (fun _ => ?_))
  all_goals first
    | exact ⟨h, fun e => by cases e⟩
    | exact ⟨h.2, fun e => by cases e⟩
    | exact ⟨AO.push (by decide) h, fun e => by cases e⟩
    | exact ⟨AO.push (by decide) h.2, fun e => by cases e⟩
theorem rStep_f (st : Stk) (f : Bool) (b : UInt8) (at_ : Int) (h : FInv (st, f)) : FInv (rStep st f b at_) := by
  match st, h with
  | [], h => exact h
  | (c, p) :: r, ⟨ha, hf⟩ =>
    unfold rStep
    refine ite_ok FInv (fun hc => ?_) (fun h76 => ?_)
    · have hff : f = false := by
        cases f
        · rfl
        · rcases hf rfl c p r rfl with h1 | h1 | h1
          · rcases h1 with h1 | h1 | h1 <;> omega
          · omega
          · have := h1.1; omega
      subst hff
      refine ite_ok FInv (fun _ => ⟨AO.push (by decide) ha.2, fun _ => ?_⟩) (fun _ => ?_)
      · rintro _ _ _ ⟨rfl, rfl⟩; exact .inr (.inl rfl)
      refine ite_ok FInv (fun _ => ?_) (fun _ => ?_)
      · cases r with
        | nil => exact ⟨AO.push (by decide) trivial, fun e => by cases e⟩
        | cons x r => obtain ⟨d, q⟩ := x; exact ite_ok FInv (fun _ => ⟨AO.push (by decide) ha.2, fun e => by cases e⟩) (fun _ => ⟨AO.push (by decide) ha.2, fun e => by cases e⟩)
      · refine ite_ok FInv (fun _ => ⟨ha.2, fun e => by cases e⟩) (fun _ => ?_)
        cases r with
        | nil => exact ⟨trivial, fun e => by cases e⟩
        | cons x r =>
          obtain ⟨d, q⟩ := x
          exact rPlain_f _ _ _ _ _ _ (fun e => by cases e) ha.2 (fun e => by cases e)
    · refine ite_ok FInv (fun h79 => ?_) (fun h79 => ?_)
      · exact ite_ok FInv (fun _ => ⟨AO.push (by decide) ha.2, fun e => by cases e⟩) (fun _ => rPlain_f _ _ _ _ _ _ (fun _ => by decide) (AO.push (by decide) ha.2) (fun _ => (Hd.of (by right; left; rfl)).fo))
      · refine ite_ok FInv (fun h69 => ?_) (fun _ => rPlain_f _ _ _ _ _ _ (fun _ => h79) ha hf)
        have hff : f = false := by
          cases f
          · rfl
          · rcases hf rfl c p r rfl with h1 | h1 | h1
            · rcases h1 with h1 | h1 | h1 <;> omega
            · omega
            · have := h1.1; omega
        subst hff
        exact ite_ok FInv (fun _ => ⟨ha.2, fun e => by cases e⟩) (fun _ => rPlain_f _ _ _ _ _ _ (fun _ => by decide) (AO.push (by decide) ha.2) (fun e => by cases e))
theorem rAt_f (l : List UInt8) : ∀ k, FInv (rAt l k)
  | 0 => ⟨⟨fun h => by simp at h, trivial⟩, fun _ => (Hd.of (.inl rfl)).fo⟩
  | k + 1 => rStep_f _ _ _ _ (rAt_f l k)
theorem rAt_app (s x : List UInt8) : ∀ k, k ≤ s.length → rAt (s ++ x) k = rAt s k
  | 0, _ => rfl
  | k + 1, h => by
    simp only [rAt]
    rw [rAt_app s x k (by omega), List.getD_eq_getElem?_getD, List.getD_eq_getElem?_getD, List.getElem?_append_left (by omega)]
/-- A quote over a program or a parameter opens Single, and nothing is fresh in it. -/
theorem quote_in (st : Stk) (f : Bool) (c : UInt8) (p at_ : Int) (r : Stk) (hst : st = (c, p) :: r) (hf : FInv (st, f)) (hc : c.toNat = 84 ∨ c.toNat = 67 ∨ c.toNat = 80 ∨ c.toNat = 86) : rStep st f 39 at_ = ((83, at_) :: st, false) := by
  subst hst
  have h39 : (39 : UInt8).toNat = 39 := rfl
  rcases hc with hc | hc | hc | hc
  · simp [rStep, rPlain, rProgram, hc, h39]
  · simp [rStep, rPlain, rProgram, hc, h39]
  · simp [rStep, rPlain, rProgram, hc, h39]
  · have hff : f = false := by
      cases f
      · rfl
      · rcases hf.2 rfl c p r rfl with h1 | h1 | h1
        · rcases h1 with h1 | h1 | h1 <;> omega
        · omega
        · have := h1.1; omega
    subst hff
    simp [rStep, rPlain, rProgram, hc, h39]
theorem quote_on (st : Stk) (b : UInt8) (p at_ : Int) (hb : b.toNat ≠ 39) : rStep ((83, p) :: st) false b at_ = ((83, p) :: st, false) := by
  simp [rStep, rPlain, hb]
theorem quote_out (st : Stk) (p at_ : Int) : rStep ((83, p) :: st) false 39 at_ = (st, false) := by
  simp [rStep, rPlain]
theorem rAt_next (l : List UInt8) (n : Nat) : rAt l (n + 1) = rStep (rAt l n).1 (rAt l n).2 (l.getD n 0) n := rfl
theorem rAt_quoted (s t u : List UInt8) (c : UInt8) (p : Int) (r : Stk) (hst : (rAt s s.length).1 = (c, p) :: r) (hc : c.toNat = 84 ∨ c.toNat = 67 ∨ c.toNat = 80 ∨ c.toNat = 86) (ht : ∀ b ∈ t, b.toNat ≠ 39) :
    ∀ k, k ≤ t.length → rAt (s ++ 39 :: (t ++ u)) (s.length + 1 + k) = ((83, (s.length : Int)) :: (rAt s s.length).1, false)
  | 0, _ => by
    show rStep (rAt (s ++ 39 :: (t ++ u)) s.length).1 _ _ _ = _
    rw [rAt_app s _ s.length (Nat.le_refl _)]
    have e : (s ++ 39 :: (t ++ u)).getD s.length 0 = 39 := by simp [List.getD_eq_getElem?_getD]
    rw [e]
    exact quote_in _ _ c p _ r hst (rAt_f s s.length) hc
  | k + 1, h => by
    rw [show s.length + 1 + (k + 1) = (s.length + 1 + k) + 1 from rfl, rAt_next, rAt_quoted s t u c p r hst hc ht k (by omega)]
    have hk : k < t.length := by omega
    have e : (s ++ 39 :: (t ++ u)).getD (s.length + 1 + k) 0 = t[k] := by
      rw [List.getD_eq_getElem?_getD, List.getElem?_append_right (by omega)]
      rw [show s.length + 1 + k - s.length = k + 1 by omega, List.getElem?_cons_succ, List.getElem?_append_left hk, List.getElem?_eq_getElem hk]
      rfl
    rw [e]
    exact quote_on _ _ _ _ (ht _ (List.getElem_mem hk))
/-- What the law ModesQuoted says, of the reference. -/
theorem quoted_law (s t : List UInt8) (c : UInt8) (p : Int) (r : Stk) (hst : (rAt s s.length).1 = (c, p) :: r) (hc : c.toNat = 84 ∨ c.toNat = 67 ∨ c.toNat = 80 ∨ c.toNat = 86) (ht : ∀ b ∈ t, b.toNat ≠ 39) :
    (rAt (s ++ 39 :: t) (s ++ 39 :: t).length).1 = (83, (s.length : Int)) :: (rAt s s.length).1 ∧ rAt (s ++ 39 :: (t ++ [39])) (s ++ 39 :: (t ++ [39])).length = ((rAt s s.length).1, false) := by
  constructor
  · have h := rAt_quoted s t [] c p r hst hc ht t.length (Nat.le_refl _)
    rw [List.append_nil] at h
    have el : (s ++ 39 :: t).length = s.length + 1 + t.length := by simp; omega
    rw [el, h]
  · have h := rAt_quoted s t [39] c p r hst hc ht t.length (Nat.le_refl _)
    have el : (s ++ 39 :: (t ++ [39])).length = (s.length + 1 + t.length) + 1 := by simp; omega
    rw [el]
    rw [rAt_next, h]
    have e : (s ++ 39 :: (t ++ [39])).getD (s.length + 1 + t.length) 0 = 39 := by
      rw [List.getD_eq_getElem?_getD, List.getElem?_append_right (by omega)]
      rw [show s.length + 1 + t.length - s.length = t.length + 1 by omega, List.getElem?_cons_succ, List.getElem?_append_right (by omega)]
      simp
    rw [e]
    exact quote_out _ _ _
end Go.Proofs.Ytjkiapgboljabaa
