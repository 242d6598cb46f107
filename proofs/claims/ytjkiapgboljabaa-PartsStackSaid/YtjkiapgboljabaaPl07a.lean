/- Plain facts on the frames above Top: their places fall strictly from the last one on; a byte takes some of the last ones away and opens one at most, at its own place. No program is in sight. -/
import Derived.Test.YtjkiapgboljabaaPl06g
namespace Go.Proofs.Ytjkiapgboljabaa
set_option linter.unusedVariables false
set_option linter.unusedSimpArgs false
set_option maxRecDepth 100000
/-- The places of a stack, the last frame first. -/
abbrev pls (st : Stk) : List Int := st.map (·.2)
/-- What a byte does to the places: m of the last ones go; its own one may come. -/
def Plq (ps : List Int) (a : Int) (x : Stk × Bool) : Prop := ∃ m, pls x.1 = ps.drop m ∨ pls x.1 = a :: ps.drop m
theorem Plq.same {st st' : Stk} {f : Bool} {a : Int} (h : pls st' = pls st) : Plq (pls st) a (st', f) := ⟨0, .inl h⟩
theorem Plq.push {st : Stk} {c : UInt8} {f : Bool} {a : Int} : Plq (pls st) a ((c, a) :: st, f) := ⟨0, .inr rfl⟩
theorem Plq.tail {st : Stk} {f : Bool} {a : Int} : Plq (pls st) a (st.tail, f) := ⟨1, .inl (by simp [pls, List.drop_one, List.map_tail])⟩
theorem Plq.deep {y : UInt8 × Int} {st : Stk} {a : Int} {x : Stk × Bool} (h : Plq (pls st) a x) : Plq (pls (y :: st)) a x := by
  obtain ⟨m, h⟩ := h
  exact ⟨m + 1, by simpa [pls] using h⟩
theorem rProgram_q (st : Stk) (f : Bool) (c b : UInt8) (a : Int) : Plq (pls st) a (rProgram st f c b a) := by
  unfold rProgram
  repeat' (refine ite_ok (Plq (pls st) a) (fun _ => ?_) (fun _ => ?_))
  all_goals first
    | exact Plq.push
    | exact Plq.tail
    | exact Plq.same rfl
theorem rPlain_q (st : Stk) (f : Bool) (c b : UInt8) (a : Int) : Plq (pls st) a (rPlain st f c b a) := by
  unfold rPlain
  repeat' (refine ite_ok (Plq (pls st) a) (fun _ => ?_) (fun _ => ?_))
  all_goals first
    | exact rProgram_q _ _ _ _ _
    | exact Plq.push
    | exact Plq.tail
    | exact Plq.same rfl
    | (refine Plq.same ?_; cases st <;> rfl)
theorem rStep_q (st : Stk) (f : Bool) (b : UInt8) (a : Int) : Plq (pls st) a (rStep st f b a) := by
  match st with
  | [] => exact Plq.same rfl
  | (c, p) :: r =>
    unfold rStep
    refine ite_ok (Plq (pls ((c, p) :: r)) a) (fun _ => ?_) (fun _ => ?_)
    · refine ite_ok (Plq (pls ((c, p) :: r)) a) (fun _ => Plq.same rfl) (fun _ => ?_)
      refine ite_ok (Plq (pls ((c, p) :: r)) a) (fun _ => ?_) (fun _ => ?_)
      · cases r with
        | nil => exact Plq.same rfl
        | cons y r => exact ite_ok (Plq (pls ((c, p) :: y :: r)) a) (fun _ => Plq.same rfl) (fun _ => Plq.same rfl)
      · refine ite_ok (Plq (pls ((c, p) :: r)) a) (fun _ => (Plq.same rfl).deep) (fun _ => ?_)
        cases r with
        | nil => exact (Plq.same rfl).deep
        | cons y r => exact (rPlain_q _ _ _ _ _).deep
    · refine ite_ok (Plq (pls ((c, p) :: r)) a) (fun _ => ?_) (fun _ => ?_)
      · exact ite_ok (Plq (pls ((c, p) :: r)) a) (fun _ => Plq.same rfl) (fun _ => rPlain_q ((67, p) :: r) _ _ _ _)
      · refine ite_ok (Plq (pls ((c, p) :: r)) a) (fun _ => ?_) (fun _ => rPlain_q _ _ _ _ _)
        exact ite_ok (Plq (pls ((c, p) :: r)) a) (fun _ => (Plq.same rfl).deep) (fun _ => rPlain_q ((65, p) :: r) _ _ _ _)
/-- The frames above Top, the last one first; and in their order. -/
def XT (l : List UInt8) (k : Nat) : Stk := (rAt l k).1.dropLast
def FT (l : List UInt8) (k : Nat) : Stk := (XT l k).reverse
theorem bot_split {st : Stk} (h : Bot st) : ∃ p, st = st.dropLast ++ [(84, p)] := by
  induction st with
  | nil => exact h.elim
  | cons x r ih =>
    cases r with
    | nil => obtain ⟨c, p⟩ := x; obtain rfl : c = 84 := h; exact ⟨p, rfl⟩
    | cons y r =>
      obtain ⟨p, hp⟩ := ih h.2
      exact ⟨p, by rw [List.dropLast_cons_cons, List.cons_append, ← hp]⟩
/-! Top has place 0. -/
def Z84 (x : Stk × Bool) : Prop := ∀ y ∈ x.1, y.1 = 84 → y.2 = 0
theorem Z84.cons {c : UInt8} {q : Int} {st : Stk} {f g : Bool} (h : Z84 (st, f)) (hc : c ≠ 84) : Z84 ((c, q) :: st, g) := by
  intro y hy e
  rcases List.mem_cons.1 hy with rfl | hy
  · exact absurd e hc
  · exact h y hy e
theorem Z84.tail {st : Stk} {f g : Bool} (h : Z84 (st, f)) : Z84 (st.tail, g) := fun y hy => h y (List.mem_of_mem_tail hy)
theorem Z84.any {st : Stk} {f g : Bool} (h : Z84 (st, f)) : Z84 (st, g) := h
theorem rProgram_z (st : Stk) (f : Bool) (c b : UInt8) (a : Int) (h : Z84 (st, f)) : Z84 (rProgram st f c b a) := by
  unfold rProgram
  repeat' (refine ite_ok Z84 (fun _ => ?_) (fun _ => ?_))
  all_goals first
    | exact h.any
    | exact h.cons (by decide)
    | exact h.tail
theorem rPlain_z (st : Stk) (f : Bool) (c b : UInt8) (a : Int) (h : Z84 (st, f)) : Z84 (rPlain st f c b a) := by
  unfold rPlain
  repeat' (refine ite_ok Z84 (fun _ => ?_) (fun _ => ?_))
  all_goals first
    | exact rProgram_z st f c b a h
    | exact h.any
    | exact h.cons (by decide)
    | exact h.tail
    | (cases st with
       | nil => exact h.any
       | cons y r => exact Z84.cons (f := f) (fun z hz => h z (List.mem_cons_of_mem _ hz)) (by decide))
theorem rStep_z (st : Stk) (f : Bool) (b : UInt8) (a : Int) (h : Z84 (st, f)) : Z84 (rStep st f b a) := by
  match st, h with
  | [], h => exact h
  | (c, p) :: r, h =>
    have hr : Z84 (r, f) := fun z hz => h z (List.mem_cons_of_mem _ hz)
    unfold rStep
    refine ite_ok Z84 (fun _ => ?_) (fun _ => ?_)
    · refine ite_ok Z84 (fun _ => hr.cons (by decide)) (fun _ => ?_)
      refine ite_ok Z84 (fun _ => ?_) (fun _ => ?_)
      · cases r with
        | nil => exact hr.cons (by decide)
        | cons y r => exact ite_ok Z84 (fun _ => hr.cons (by decide)) (fun _ => hr.cons (by decide))
      · refine ite_ok Z84 (fun _ => hr) (fun _ => ?_)
        cases r with
        | nil => exact hr
        | cons y r => exact rPlain_z _ _ _ _ _ hr
    · refine ite_ok Z84 (fun _ => ?_) (fun _ => ?_)
      · exact ite_ok Z84 (fun _ => hr.cons (by decide)) (fun _ => rPlain_z _ _ _ _ _ (hr.cons (by decide)))
      · refine ite_ok Z84 (fun _ => ?_) (fun _ => rPlain_z _ _ _ _ _ h)
        exact ite_ok Z84 (fun _ => hr) (fun _ => rPlain_z _ _ _ _ _ (hr.cons (by decide)))
theorem rAt_z (l : List UInt8) : ∀ k : Nat, Z84 (rAt l k)
  | 0 => by intro y hy _; simp [rAt] at hy; rw [hy]
  | k + 1 => rStep_z _ _ _ _ (rAt_z l k)
theorem rAt_split (l : List UInt8) (k : Nat) : (rAt l k).1 = XT l k ++ [(84, 0)] := by
  obtain ⟨p, hp⟩ := bot_split (rAt_bot l k)
  have h0 : p = 0 := rAt_z l k (84, p) (by rw [hp]; simp) rfl
  subst h0
  exact hp
theorem XT_len (l : List UInt8) (k : Nat) : (rAt l k).1.length = (XT l k).length + 1 := by rw [rAt_split]; simp
theorem rAt_rev (l : List UInt8) (k : Nat) : (rAt l k).1.reverse = (84, 0) :: FT l k := by rw [rAt_split]; simp [FT]
theorem XT_step (l : List UInt8) (k : Nat) : ∃ m, pls (XT l (k + 1)) = (pls (XT l k)).drop m ∨ pls (XT l (k + 1)) = (k : Int) :: (pls (XT l k)).drop m := by
  obtain ⟨m, h⟩ := rStep_q (rAt l k).1 (rAt l k).2 (l.getD k 0) k
  have h' : pls (rAt l (k + 1)).1 = (pls (rAt l k).1).drop m ∨ pls (rAt l (k + 1)).1 = (k : Int) :: (pls (rAt l k).1).drop m := h
  rw [rAt_split l (k + 1), rAt_split l k] at h'
  simp only [pls, List.map_append, List.map_cons, List.map_nil] at h' ⊢
  generalize (XT l (k + 1)).map (·.2) = A at h' ⊢
  generalize (XT l k).map (·.2) = B at h' ⊢
  by_cases hm : m ≤ B.length
  · rw [List.drop_append_of_le_length hm] at h'
    refine ⟨m, h'.imp (fun e => (List.append_left_inj _).1 e) (fun e => ?_)⟩
    rw [← List.cons_append] at e
    exact (List.append_left_inj _).1 e
  · rw [List.drop_eq_nil_of_le (by simp; omega)] at h'
    refine ⟨B.length, .inl ?_⟩
    rcases h' with e | e
    · simp at e
    · cases A with
      | nil => simp
      | cons x A => have := congrArg List.length e; simp at this
/-- The places of the frames above Top fall from the last one on; all lie ahead. -/
theorem XT_fall (l : List UInt8) : ∀ k : Nat, (pls (XT l k)).Pairwise (· > ·) ∧ ∀ p ∈ pls (XT l k), 0 ≤ p ∧ p < (k : Int)
  | 0 => ⟨List.Pairwise.nil, by intro p hp; simp [XT, rAt, pls] at hp⟩
  | k + 1 => by
    obtain ⟨h1, h2⟩ := XT_fall l k
    obtain ⟨m, h | h⟩ := XT_step l k
    · rw [h]
      exact ⟨h1.sublist (List.drop_sublist _ _), fun p hp => by have := h2 p (List.mem_of_mem_drop hp); omega⟩
    · rw [h]
      refine ⟨List.Pairwise.cons (fun p hp => by have := h2 p (List.mem_of_mem_drop hp); show (k : Int) > p; omega) (h1.sublist (List.drop_sublist _ _)), fun p hp => ?_⟩
      rcases List.mem_cons.1 hp with rfl | hp
      · omega
      · have := h2 p (List.mem_of_mem_drop hp); omega
/-- The same of the frames in their order. -/
theorem FT_rise (l : List UInt8) (k : Nat) : (pls (FT l k)).Pairwise (· < ·) ∧ ∀ p ∈ pls (FT l k), 0 ≤ p ∧ p < (k : Int) := by
  obtain ⟨h1, h2⟩ := XT_fall l k
  have e : pls (FT l k) = (pls (XT l k)).reverse := by simp [pls, FT]
  rw [e]
  exact ⟨List.pairwise_reverse.2 h1, fun p hp => h2 p (List.mem_reverse.1 hp)⟩
theorem FT_step (l : List UInt8) (k : Nat) : ∃ j, j ≤ (FT l k).length ∧ (pls (FT l (k + 1)) = (pls (FT l k)).take j ∨ pls (FT l (k + 1)) = (pls (FT l k)).take j ++ [(k : Int)]) := by
  obtain ⟨m, h⟩ := XT_step l k
  have e : ∀ k, pls (FT l k) = (pls (XT l k)).reverse := by intro k; simp [pls, FT]
  refine ⟨(FT l k).length - m, by omega, ?_⟩
  rw [e, e]
  have hl : (FT l k).length = (pls (XT l k)).length := by simp [FT, pls]
  rw [hl, ← List.reverse_drop]
  rcases h with h | h
  · left; rw [h]
  · right; rw [h]; simp
end Go.Proofs.Ytjkiapgboljabaa
