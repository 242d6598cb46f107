/- Plain law of a substitution: what the law ModesInner says, of the reference. No program is in sight. -/
import Derived.Test.YtjkiapgboljabaaPl06f
namespace Go.Proofs.Ytjkiapgboljabaa
set_option linter.unusedVariables false
set_option linter.unusedSimpArgs false
set_option maxRecDepth 100000
/-- A dollar opens something over these letters. -/
def DolB (c : UInt8) : Bool := [84, 67, 80, 68, 86, 73, 65, 82].contains c
theorem dol_or (c : UInt8) (h : DolB c = true) : c.toNat = 84 ∨ c.toNat = 67 ∨ c.toNat = 80 ∨ c.toNat = 68 ∨ c.toNat = 86 ∨ c.toNat = 73 ∨ c.toNat = 65 ∨ c.toNat = 82 := by
  have := byte_all (fun c => !DolB c || (c.toNat == 84 || c.toNat == 67 || c.toNat == 80 || c.toNat == 68 || c.toNat == 86 || c.toNat == 73 || c.toNat == 65 || c.toNat == 82)) (by decide +kernel) c
  simpa [h, or_assoc] using this
theorem dollar_in (st : Stk) (f : Bool) (c : UInt8) (p a1 a2 : Int) (r : Stk) (hst : st = (c, p) :: r) (hc : DolB c = true) :
    rStep (rStep st f 36 a1).1 (rStep st f 36 a1).2 40 a2 = ((79, a1) :: st, true) := by
  subst hst
  have h36 : (36 : UInt8).toNat = 36 := rfl
  have h40 : (40 : UInt8).toNat = 40 := rfl
  have h76 : (76 : UInt8).toNat = 76 := rfl
  rcases dol_or c hc with hc | hc | hc | hc | hc | hc | hc | hc
  all_goals simp [rStep, rPlain, rProgram, hc, h36, h40, h76]
theorem sh_tail (d : Int) (x : Stk) : (sh d x).tail = sh d x.tail := by cases x <;> rfl
theorem sh_append (d : Int) (x y : Stk) : sh d (x ++ y) = sh d x ++ sh d y := by simp [sh]
theorem getD_app (s x : List UInt8) (k : Nat) : (s ++ x).getD (s.length + k) 0 = x.getD k 0 := by
  rw [List.getD_eq_getElem?_getD, List.getD_eq_getElem?_getD, List.getElem?_append_right (by omega)]
  congr 2
  omega
theorem inner_k (s t : List UInt8) (c : UInt8) (p : Int) (r : Stk) (hst : (rAt s s.length).1 = (c, p) :: r) (hc : DolB c = true) (ht : ∀ b ∈ t, b.toNat ≠ 41) :
    ∀ k, k ≤ t.length → ∃ X f, BI X ∧ rAt (36 :: 40 :: t) (2 + k) = (X ++ [(84, 0)], f) ∧ rAt (s ++ 36 :: 40 :: t) (s.length + (2 + k)) = (sh (s.length : Int) X ++ (rAt s s.length).1, f)
  | 0, _ => by
    refine ⟨[(79, 0)], true, .inl rfl, by rfl, ?_⟩
    have h1 : rAt (s ++ 36 :: 40 :: t) (s.length + (2 + 0)) = rStep (rStep (rAt (s ++ 36 :: 40 :: t) s.length).1 (rAt (s ++ 36 :: 40 :: t) s.length).2 ((s ++ 36 :: 40 :: t).getD (s.length + 0) 0) s.length).1 (rStep (rAt (s ++ 36 :: 40 :: t) s.length).1 (rAt (s ++ 36 :: 40 :: t) s.length).2 ((s ++ 36 :: 40 :: t).getD (s.length + 0) 0) s.length).2 ((s ++ 36 :: 40 :: t).getD (s.length + 1) 0) ((s.length + 1 : Nat) : Int) := rfl
    rw [h1, getD_app, getD_app, rAt_app s _ s.length (Nat.le_refl _)]
    show rStep (rStep _ _ 36 _).1 (rStep _ _ 36 _).2 40 _ = _
    rw [dollar_in _ _ c p _ _ r hst hc]
    simp [sh]
  | k + 1, h => by
    obtain ⟨X, f, hX, e1, e2⟩ := inner_k s t c p r hst hc ht k (by omega)
    have hk : k < t.length := by omega
    have b1 : Bot (X ++ [(84, 0)]) := by have := rAt_bot (36 :: 40 :: t) (2 + k); rw [e1] at this; exact this
    have v1 : Vst (X ++ [(84, 0)]) := by have := rAt_v (36 :: 40 :: t) (2 + k); rw [e1] at this; exact this
    have n1 : NT X := NT.of_bot b1
    have m1 := mid_tail v1 hX.ne
    have hb : t[k].toNat ≠ 41 := ht _ (List.getElem_mem hk)
    have g1 : (36 :: 40 :: t).getD (2 + k) 0 = t[k] := by
      rw [List.getD_eq_getElem?_getD, show 2 + k = k + 1 + 1 by omega, List.getElem?_cons_succ, List.getElem?_cons_succ, List.getElem?_eq_getElem hk]
      rfl
    have g2 : (s ++ 36 :: 40 :: t).getD (s.length + (2 + k)) 0 = t[k] := by rw [getD_app, g1]
    have hsX : BI (sh (s.length : Int) X) := hX.sh _
    obtain ⟨q1, q2⟩ := rStep_ab X [(84, 0)] f t[k] ((2 + k : Nat) : Int) hX n1 m1 hb
    obtain ⟨q3, q4⟩ := rStep_ab (sh (s.length : Int) X) (rAt s s.length).1 f t[k] (((2 + k : Nat) : Int) + (s.length : Int)) hsX (n1.sh _) (by
      rw [sh_tail]
      intro y hy
      obtain ⟨z, hz, rfl⟩ := List.mem_map.1 hy
      exact m1 z hz) hb
    rw [rStep_sh] at q3
    refine ⟨(rStep X f t[k] ((2 + k : Nat) : Int)).1, (rStep X f t[k] ((2 + k : Nat) : Int)).2, q2, ?_, ?_⟩
    · rw [show 2 + (k + 1) = (2 + k) + 1 by omega, rAt_next, e1, g1]
      exact q1
    · rw [show s.length + (2 + (k + 1)) = (s.length + (2 + k)) + 1 by omega, rAt_next, e2, g2]
      rw [show ((s.length + (2 + k) : Nat) : Int) = ((2 + k : Nat) : Int) + (s.length : Int) by push_cast; omega]
      exact q3
/-- What the law ModesInner says, of the reference. -/
theorem inner_law (s t : List UInt8) (c : UInt8) (p : Int) (r : Stk) (hst : (rAt s s.length).1 = (c, p) :: r) (hc : DolB c = true) (ht : ∀ b ∈ t, b.toNat ≠ 41) :
    ∃ X f, X ≠ [] ∧ rAt (36 :: 40 :: t) (36 :: 40 :: t).length = (X ++ [(84, 0)], f) ∧ rAt (s ++ 36 :: 40 :: t) (s ++ 36 :: 40 :: t).length = (sh (s.length : Int) X ++ (rAt s s.length).1, f) := by
  obtain ⟨X, f, hX, e1, e2⟩ := inner_k s t c p r hst hc ht t.length (Nat.le_refl _)
  refine ⟨X, f, hX.ne, ?_, ?_⟩
  · rw [← e1]; congr 1; simp; omega
  · rw [← e2]; congr 1; simp; omega
/-! The places of a stack: each is one at which a byte came. -/
def PlB (PB : Int → Prop) (x : Stk × Bool) : Prop := ∀ y ∈ x.1, PB y.2
theorem PlB.cons {PB : Int → Prop} {c : UInt8} {q : Int} {st : Stk} {f g : Bool} (h : PlB PB (st, f)) (ha : PB q) : PlB PB ((c, q) :: st, g) := by
  intro y hy
  rcases List.mem_cons.1 hy with rfl | hy
  · exact ha
  · exact h y hy
theorem PlB.tail {PB : Int → Prop} {st : Stk} {f g : Bool} (h : PlB PB (st, f)) : PlB PB (st.tail, g) := fun y hy => h y (List.mem_of_mem_tail hy)
theorem PlB.any {PB : Int → Prop} {st : Stk} {f g : Bool} (h : PlB PB (st, f)) : PlB PB (st, g) := h
theorem rProgram_pl (PB : Int → Prop) (st : Stk) (f : Bool) (c b : UInt8) (a : Int) (h : PlB PB (st, f)) (ha : PB a) : PlB PB (rProgram st f c b a) := by
  unfold rProgram
  repeat' (refine ite_ok (PlB PB) (fun _ => ?_) (fun _ => ?_))
  all_goals first
    | exact h.any
    | exact h.cons ha
    | exact h.tail
theorem rPlain_pl (PB : Int → Prop) (st : Stk) (f : Bool) (c b : UInt8) (a : Int) (h : PlB PB (st, f)) (ha : PB a) : PlB PB (rPlain st f c b a) := by
  unfold rPlain
  repeat' (refine ite_ok (PlB PB) (fun _ => ?_) (fun _ => ?_))
  all_goals first
    | exact rProgram_pl PB st f c b a h ha
    | exact h.any
    | exact h.cons ha
    | exact h.tail
    | (cases st with
       | nil => exact h.any
       | cons y r => exact PlB.cons (f := f) (fun z hz => h z (List.mem_cons_of_mem _ hz)) (h y (by simp)))
theorem rStep_pl (PB : Int → Prop) (st : Stk) (f : Bool) (b : UInt8) (a : Int) (h : PlB PB (st, f)) (ha : PB a) : PlB PB (rStep st f b a) := by
  match st, h with
  | [], h => exact h
  | (c, p) :: r, h =>
    have hp : PB p := h (c, p) (by simp)
    have hr : PlB PB (r, f) := fun z hz => h z (List.mem_cons_of_mem _ hz)
    unfold rStep
    refine ite_ok (PlB PB) (fun _ => ?_) (fun _ => ?_)
    · refine ite_ok (PlB PB) (fun _ => hr.cons hp) (fun _ => ?_)
      refine ite_ok (PlB PB) (fun _ => ?_) (fun _ => ?_)
      · cases r with
        | nil => exact hr.cons hp
        | cons y r => exact ite_ok (PlB PB) (fun _ => hr.cons hp) (fun _ => hr.cons hp)
      · refine ite_ok (PlB PB) (fun _ => hr) (fun _ => ?_)
        cases r with
        | nil => exact hr
        | cons y r => exact rPlain_pl PB _ _ _ _ _ hr ha
    · refine ite_ok (PlB PB) (fun _ => ?_) (fun _ => ?_)
      · exact ite_ok (PlB PB) (fun _ => hr.cons hp) (fun _ => rPlain_pl PB _ _ _ _ _ (hr.cons hp) ha)
      · refine ite_ok (PlB PB) (fun _ => ?_) (fun _ => rPlain_pl PB _ _ _ _ _ h ha)
        exact ite_ok (PlB PB) (fun _ => hr) (fun _ => rPlain_pl PB _ _ _ _ _ (hr.cons hp) ha)
theorem rAt_pl (l : List UInt8) : ∀ k : Nat, PlB (fun p => 0 ≤ p ∧ p ≤ (k : Int)) (rAt l k)
  | 0 => by intro y hy; simp [rAt] at hy; subst hy; simp
  | k + 1 => rStep_pl _ _ _ _ _ (fun y hy => by obtain ⟨h1, h2⟩ := rAt_pl l k y hy; exact ⟨h1, by omega⟩) ⟨by omega, by omega⟩
end Go.Proofs.Ytjkiapgboljabaa
