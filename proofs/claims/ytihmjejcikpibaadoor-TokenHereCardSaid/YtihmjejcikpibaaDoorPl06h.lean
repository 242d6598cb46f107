/- Plain law of what shuts a stack: behind it nothing is open but a dollar. No program is in sight. -/
import Derived.Test.YtihmjejcikpibaaDoorPl6
namespace Go.Proofs.YtihmjejcikpibaaDoor
set_option linter.unusedVariables false
set_option linter.unusedSimpArgs false
set_option maxRecDepth 100000
/-- What shuts a mode, by its letter. -/
def cloL (c : UInt8) : List UInt8 :=
  if c.toNat = 83 then [39] else if c.toNat = 68 then [34] else if c.toNat = 66 then [96] else if c.toNat = 86 ∨ c.toNat = 73 then [125]
  else if c.toNat = 67 ∨ c.toNat = 79 ∨ c.toNat = 80 ∨ c.toNat = 82 ∨ c.toNat = 69 then [41] else if c.toNat = 65 then [41, 41] else if c.toNat = 88 ∨ c.toNat = 35 then [10] else []
theorem cloL_len (c : UInt8) : (cloL c).length ≤ 2 := by
  unfold cloL; repeat' split
  all_goals simp
def clo (st : Stk) : List UInt8 := st.flatMap fun x => cloL x.1
theorem clo_cons (c : UInt8) (p : Int) (r : Stk) : clo ((c, p) :: r) = cloL c ++ clo r := rfl
theorem clo_len (st : Stk) : (clo st).length ≤ 2 * st.length := by
  induction st with
  | nil => simp [clo]
  | cons x r ih => obtain ⟨c, p⟩ := x; rw [clo_cons, List.length_append, List.length_cons]; have := cloL_len c; omega
/-- Bytes come to a stack, from a place on. -/
def feedL (x : Stk × Bool) (a : Nat) : List UInt8 → Stk × Bool
  | [] => x
  | b :: l => feedL (rStep x.1 x.2 b a) (a + 1) l
theorem feedL_append (x : Stk × Bool) (a : Nat) (l m : List UInt8) : feedL x a (l ++ m) = feedL (feedL x a l) (a + l.length) m := by
  induction l generalizing x a with
  | nil => rfl
  | cons b l ih => simp only [List.cons_append, feedL, List.length_cons]; rw [ih]; congr 1; omega
theorem rAt_feed (l m : List UInt8) : ∀ k, k ≤ m.length → rAt (l ++ m) (l.length + k) = feedL (rAt l l.length) l.length (m.take k)
  | 0, _ => by rw [Nat.add_zero, rAt_app l m _ (Nat.le_refl _)]; rfl
  | k + 1, h => by
    have e : m.take (k + 1) = m.take k ++ [m[k]] := List.take_succ_eq_append_getElem (by omega)
    rw [e, feedL_append, ← rAt_feed l m k (by omega), ← Nat.add_assoc, rAt_next]
    have g : (l ++ m).getD (l.length + k) 0 = m[k] := by rw [getD_app, List.getD_eq_getElem?_getD, List.getElem?_eq_getElem (by omega)]; rfl
    rw [g]
    simp only [feedL, List.length_take]
    rw [Nat.min_eq_left (by omega)]
theorem rAt_whole (l m : List UInt8) : rAt (l ++ m) (l ++ m).length = feedL (rAt l l.length) l.length m := by
  have := rAt_feed l m m.length (Nat.le_refl _)
  rw [List.take_of_length_le (Nat.le_refl _)] at this
  rw [List.length_append, this]
/-- A frame below the last one is shut by its own bytes. -/
def MidN (c : UInt8) : Bool := [67, 80, 66, 68, 86, 73, 65, 82].contains c
theorem midN_or (c : UInt8) (h : MidN c = true) : c.toNat = 67 ∨ c.toNat = 80 ∨ c.toNat = 66 ∨ c.toNat = 68 ∨ c.toNat = 86 ∨ c.toNat = 73 ∨ c.toNat = 65 ∨ c.toNat = 82 := by
  have := byte_all (fun c => !MidN c || (c.toNat == 67 || c.toNat == 80 || c.toNat == 66 || c.toNat == 68 || c.toNat == 86 || c.toNat == 73 || c.toNat == 65 || c.toNat == 82)) (by decide +kernel) c
  simpa [h, or_assoc] using this
theorem midN_of (c : UInt8) (h : Mid c = true) (h84 : c ≠ 84) : MidN c = true := by
  have := byte_all (fun c => !Mid c || c == 84 || MidN c) (by decide +kernel) c
  simpa [h, h84] using this
theorem shut_mid (c : UInt8) (p : Int) (r : Stk) (f : Bool) (a : Nat) (h : MidN c = true) : (feedL ((c, p) :: r, f) a (cloL c)).1 = r := by
  have e39 : (39 : UInt8).toNat = 39 := rfl
  have e34 : (34 : UInt8).toNat = 34 := rfl
  have e96 : (96 : UInt8).toNat = 96 := rfl
  have e125 : (125 : UInt8).toNat = 125 := rfl
  have e41 : (41 : UInt8).toNat = 41 := rfl
  have e69 : (69 : UInt8).toNat = 69 := rfl
  rcases midN_or c h with hc | hc | hc | hc | hc | hc | hc | hc
  all_goals simp [cloL, feedL, rStep, rPlain, rProgram, hc, e39, e34, e96, e125, e41, e69]
theorem shut_mids : ∀ (st : Stk) (f : Bool) (a : Nat), Bot st → (∀ y ∈ st, Mid y.1 = true) → ((feedL (st, f) a (clo st)).1).length = 1
  | [], _, _, h, _ => h.elim
  | [(c, p)], f, a, h, _ => by
    obtain rfl : c = 84 := h
    rfl
  | (c, p) :: y :: r, f, a, h, hm => by
    have hc : c ≠ 84 := h.1
    rw [clo_cons, feedL_append]
    have e := shut_mid c p (y :: r) f a (midN_of c (hm (c, p) (by simp)) hc)
    have e2 : feedL ((c, p) :: y :: r, f) a (cloL c) = (y :: r, (feedL ((c, p) :: y :: r, f) a (cloL c)).2) := Prod.ext e rfl
    rw [e2]
    exact shut_mids (y :: r) _ _ h.2 (fun z hz => hm z (by simp [hz]))
/-- The first byte that shuts a frame goes through a dollar. -/
theorem through_dollar (c : UInt8) (p q : Int) (r : Stk) (f : Bool) (a : Int) (h : MidN c = true) : ∃ b m, cloL c = b :: m ∧ rStep ((76, p) :: (c, q) :: r) f b a = rStep ((c, q) :: r) f b a := by
  have e76 : (76 : UInt8).toNat = 76 := rfl
  have e39 : (39 : UInt8).toNat = 39 := rfl
  have e34 : (34 : UInt8).toNat = 34 := rfl
  have e96 : (96 : UInt8).toNat = 96 := rfl
  have e125 : (125 : UInt8).toNat = 125 := rfl
  have e41 : (41 : UInt8).toNat = 41 := rfl
  rcases midN_or c h with hc | hc | hc | hc | hc | hc | hc | hc
  all_goals exact ⟨_, _, by simp only [cloL, hc]; rfl, by simp [rStep, hc, e76, e39, e34, e96, e125, e41]⟩
/-- The last frame, if it is none of those below. -/
def TopN (c : UInt8) : Bool := [79, 83, 69, 88, 35].contains c
theorem topN_or (c : UInt8) (h : TopN c = true) : c.toNat = 79 ∨ c.toNat = 83 ∨ c.toNat = 69 ∨ c.toNat = 88 ∨ c.toNat = 35 := by
  have := byte_all (fun c => !TopN c || (c.toNat == 79 || c.toNat == 83 || c.toNat == 69 || c.toNat == 88 || c.toNat == 35)) (by decide +kernel) c
  simpa [h, or_assoc] using this
theorem topN_of (c : UInt8) (h : Val c = true) (hm : Mid c = false) (h76 : c ≠ 76) : TopN c = true := by
  have := byte_all (fun c => !Val c || Mid c || c == 76 || TopN c) (by decide +kernel) c
  simpa [h, hm, h76] using this
theorem shut_top (c : UInt8) (p : Int) (r : Stk) (f : Bool) (a : Nat) (h : TopN c = true) : (feedL ((c, p) :: r, f) a (cloL c)).1 = r := by
  have e39 : (39 : UInt8).toNat = 39 := rfl
  have e10 : (10 : UInt8).toNat = 10 := rfl
  have e41 : (41 : UInt8).toNat = 41 := rfl
  have e67 : (67 : UInt8).toNat = 67 := rfl
  rcases topN_or c h with hc | hc | hc | hc | hc
  all_goals simp [cloL, feedL, rStep, rPlain, rProgram, hc, e39, e10, e41, e67]
theorem shut_all (st : Stk) (f : Bool) (a : Nat) (hb : Bot st) (hv : Vst st) : ((feedL (st, f) a (clo st)).1).length = 1 ∨ (∃ p q, (feedL (st, f) a (clo st)).1 = [(76, p), (84, q)]) ∧ clo st = [] := by
  match st, hb, hv with
  | (c, p) :: r, hb, ⟨hc, hm⟩ =>
    by_cases hmid : Mid c = true
    · exact .inl (shut_mids _ f a hb (fun y hy => by
        rcases List.mem_cons.1 hy with rfl | hy
        · exact hmid
        · exact hm y hy))
    · have hmid' : Mid c = false := by simpa using hmid
      have h84 : c ≠ 84 := by rintro rfl; simp [Mid] at hmid'
      have hbr := hb.tail h84
      by_cases h76 : c = 76
      · subst h76
        match r, hbr, hm with
        | [(d, q)], hbr, hm =>
          obtain rfl : d = 84 := hbr
          exact .inr ⟨⟨p, q, rfl⟩, rfl⟩
        | (d, q) :: y :: r, hbr, hm =>
          left
          obtain ⟨b, m, hbm, hst⟩ := through_dollar d p q (y :: r) f a (midN_of d (hm (d, q) (by simp)) hbr.1)
          have ih := shut_mids ((d, q) :: y :: r) f a hbr hm
          have e0 : clo ((76, p) :: (d, q) :: y :: r) = clo ((d, q) :: y :: r) := rfl
          rw [e0]
          rw [clo_cons, hbm, List.cons_append] at ih ⊢
          simp only [feedL] at ih ⊢
          rw [hst]
          exact ih
      · left
        rw [clo_cons, feedL_append]
        have e := shut_top c p r f a (topN_of c hc hmid' h76)
        have e2 : feedL ((c, p) :: r, f) a (cloL c) = (r, (feedL ((c, p) :: r, f) a (cloL c)).2) := Prod.ext e rfl
        rw [e2]
        exact shut_mids r _ _ hbr hm
/-- What the law ModesCloses says, of the reference. -/
theorem closes_law (l : List UInt8) : ((rAt (l ++ clo (rAt l l.length).1) (l ++ clo (rAt l l.length).1).length).1).length = 1 ∨
    (∃ p q, (rAt (l ++ clo (rAt l l.length).1) (l ++ clo (rAt l l.length).1).length).1 = [(76, p), (84, q)]) ∧ clo (rAt l l.length).1 = [] := by
  rw [rAt_whole]
  exact shut_all _ _ _ (rAt_bot l _) (rAt_v l _)
end Go.Proofs.YtihmjejcikpibaaDoor
