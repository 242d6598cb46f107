/- Plain laws of the reference's machine: its stack grows by one at most; Top stays at its bottom. No program is in sight. -/
import Derived.Test.YtjkiapgboljabaaPl06
namespace Go.Proofs.Ytjkiapgboljabaa
set_option linter.unusedVariables false
set_option linter.unusedSimpArgs false
set_option maxRecDepth 100000
/-- Top lies at the bottom, and nowhere else. -/
def Bot : Stk → Prop
  | [] => False
  | [(c, _)] => c = 84
  | (c, _) :: r => c ≠ 84 ∧ Bot r
theorem Bot.ne {st : Stk} (h : Bot st) : st ≠ [] := by rintro rfl; exact h
theorem Bot.single {c : UInt8} {p : Int} (h : Bot [(c, p)]) : c = 84 := h
theorem Bot.cons {c : UInt8} {p : Int} {st : Stk} (hc : c ≠ 84) (h : Bot st) : Bot ((c, p) :: st) := by
  cases st with
  | nil => exact h.elim
  | cons x r => exact ⟨hc, h⟩
theorem Bot.tail {c : UInt8} {p : Int} {st : Stk} (hc : c ≠ 84) (h : Bot ((c, p) :: st)) : Bot st := by
  cases st with
  | nil => exact (hc h).elim
  | cons x r => exact h.2
theorem Bot.turn {c d : UInt8} {p q : Int} {st : Stk} (hc : c ≠ 84) (hd : d ≠ 84) (h : Bot ((c, p) :: st)) : Bot ((d, q) :: st) := (h.tail hc).cons hd
theorem Bot.turn' {c d : UInt8} {p q : Int} {st : Stk} (hc : c.toNat ≠ 84) (hd : d ≠ 84) (h : Bot ((c, p) :: st)) : Bot ((d, q) :: st) := h.turn (fun e => hc (by rw [e]; rfl)) hd
theorem Bot.tail' {c : UInt8} {p : Int} {st : Stk} (hc : c.toNat ≠ 84) (h : Bot ((c, p) :: st)) : Bot st := h.tail (fun e => hc (by rw [e]; rfl))
theorem ite_ok {α : Type} (P : α → Prop) {c : Prop} [Decidable c] {a b : α} (h1 : c → P a) (h2 : ¬ c → P b) : P (if c then a else b) := by
  by_cases h : c
  · rw [if_pos h]; exact h1 h
  · rw [if_neg h]; exact h2 h
theorem rProgram_bot (r : Stk) (f : Bool) (c b : UInt8) (p at_ : Int) (h : Bot ((c, p) :: r)) : Bot (rProgram ((c, p) :: r) f c b at_).1 := by
  unfold rProgram
  repeat' (refine ite_ok (fun x : Stk × Bool => Bot x.1) (fun _ => ?_) (fun _ => ?_))
  all_goals first
    | exact h
    | exact h.cons (by decide)
    | exact h.tail' (by omega)
theorem rPlain_bot (r : Stk) (f : Bool) (c b : UInt8) (p at_ : Int) (h : Bot ((c, p) :: r)) : Bot (rPlain ((c, p) :: r) f c b at_).1 := by
  unfold rPlain
  repeat' (refine ite_ok (fun x : Stk × Bool => Bot x.1) (fun _ => ?_) (fun _ => ?_))
  all_goals first
    | exact rProgram_bot _ _ _ _ _ _ h
    | exact h
    | exact h.cons (by decide)
    | exact h.tail' (by omega)
    | exact h.turn' (by omega) (by decide)
theorem rStep_bot (st : Stk) (f : Bool) (b : UInt8) (at_ : Int) (h : Bot st) : Bot (rStep st f b at_).1 := by
  match st, h with
  | (c, p) :: r, h =>
    unfold rStep
    refine ite_ok (fun x : Stk × Bool => Bot x.1) (fun hc => ?_) (fun _ => ?_)
    · have ht := h.tail' (by omega)
      refine ite_ok (fun x : Stk × Bool => Bot x.1) (fun _ => h.turn' (by omega) (by decide)) (fun _ => ?_)
      refine ite_ok (fun x : Stk × Bool => Bot x.1) (fun _ => ?_) (fun _ => ?_)
      · cases r with
        | nil => exact h.turn' (by omega) (by decide)
        | cons x r =>
          obtain ⟨d, q⟩ := x
          exact ite_ok (fun x : Stk × Bool => Bot x.1) (fun _ => h.turn' (by omega) (by decide)) (fun _ => h.turn' (by omega) (by decide))
      · refine ite_ok (fun x : Stk × Bool => Bot x.1) (fun _ => ht) (fun _ => ?_)
        cases r with
        | nil => exact ht
        | cons x r => obtain ⟨d, q⟩ := x; exact rPlain_bot _ _ _ _ _ _ ht
    · refine ite_ok (fun x : Stk × Bool => Bot x.1) (fun _ => ?_) (fun _ => ?_)
      · exact ite_ok (fun x : Stk × Bool => Bot x.1) (fun _ => h.turn' (by omega) (by decide)) (fun _ => rPlain_bot _ _ _ _ _ _ (h.turn' (by omega) (by decide)))
      · refine ite_ok (fun x : Stk × Bool => Bot x.1) (fun _ => ?_) (fun _ => rPlain_bot _ _ _ _ _ _ h)
        exact ite_ok (fun x : Stk × Bool => Bot x.1) (fun _ => h.tail' (by omega)) (fun _ => rPlain_bot _ _ _ _ _ _ (h.turn' (by omega) (by decide)))
theorem rProgram_len (st : Stk) (f : Bool) (c b : UInt8) (at_ : Int) : (rProgram st f c b at_).1.length ≤ st.length + 1 := by
  unfold rProgram
  repeat' (refine ite_ok (fun x : Stk × Bool => x.1.length ≤ st.length + 1) (fun _ => ?_) (fun _ => ?_))
  all_goals (simp; try omega)
theorem rPlain_len (st : Stk) (f : Bool) (c b : UInt8) (at_ : Int) : (rPlain st f c b at_).1.length ≤ st.length + 1 := by
  have h0 := rProgram_len st f c b at_
  unfold rPlain
  repeat' (refine ite_ok (fun x : Stk × Bool => x.1.length ≤ st.length + 1) (fun _ => ?_) (fun _ => ?_))
  all_goals first
    | exact h0
    | (simp; done)
    | (simp; omega)
    | (cases st <;> simp)
theorem rStep_len (st : Stk) (f : Bool) (b : UInt8) (at_ : Int) : (rStep st f b at_).1.length ≤ st.length + 1 := by
  match st with
  | [] => simp [rStep]
  | (c, p) :: r =>
    have h1 := rPlain_len ((c, p) :: r) f c b at_
    have h2 := rPlain_len ((67, p) :: r) f 67 b at_
    have h3 := rPlain_len ((65, p) :: r) f 65 b at_
    unfold rStep
    refine ite_ok (fun x : Stk × Bool => x.1.length ≤ r.length + 1 + 1) (fun hc => ?_) (fun _ => ?_)
    · refine ite_ok (fun x : Stk × Bool => x.1.length ≤ r.length + 1 + 1) (fun _ => by simp) (fun _ => ?_)
      refine ite_ok (fun x : Stk × Bool => x.1.length ≤ r.length + 1 + 1) (fun _ => ?_) (fun _ => ?_)
      · cases r with
        | nil => simp
        | cons x r => exact ite_ok (fun x : Stk × Bool => x.1.length ≤ _) (fun _ => by simp) (fun _ => by simp)
      · refine ite_ok (fun x : Stk × Bool => x.1.length ≤ r.length + 1 + 1) (fun _ => by simp; omega) (fun _ => ?_)
        cases r with
        | nil => simp
        | cons x r => exact Nat.le_succ_of_le (rPlain_len _ _ _ _ _)
    · refine ite_ok (fun x : Stk × Bool => x.1.length ≤ r.length + 1 + 1) (fun _ => ?_) (fun _ => ?_)
      · exact ite_ok (fun x : Stk × Bool => x.1.length ≤ _) (fun _ => by simp) (fun _ => h2)
      · refine ite_ok (fun x : Stk × Bool => x.1.length ≤ r.length + 1 + 1) (fun _ => ?_) (fun _ => h1)
        exact ite_ok (fun x : Stk × Bool => x.1.length ≤ _) (fun _ => by simp; omega) (fun _ => h3)
/-- The state behind the first k bytes of a text. -/
def rAt (l : List UInt8) : Nat → Stk × Bool
  | 0 => ([(84, 0)], true)
  | k + 1 => rStep (rAt l k).1 (rAt l k).2 (l.getD k 0) k
theorem rAt_bot (l : List UInt8) : ∀ k, Bot (rAt l k).1
  | 0 => rfl
  | k + 1 => rStep_bot _ _ _ _ (rAt_bot l k)
theorem rAt_len (l : List UInt8) : ∀ k, (rAt l k).1.length ≤ k + 1
  | 0 => by simp [rAt]
  | k + 1 => by
    have h1 := rStep_len (rAt l k).1 (rAt l k).2 (l.getD k 0) k
    have h2 := rAt_len l k
    simp only [rAt]
    omega
end Go.Proofs.Ytjkiapgboljabaa
