/- Plain laws of a substitution: behind $( the machine works above what was there, as long as no ) comes, and shifted by the places ahead. No program is in sight. -/
import Derived.Test.YtjkiapgboljabaaPl06e
namespace Go.Proofs.Ytjkiapgboljabaa
set_option linter.unusedVariables false
set_option linter.unusedSimpArgs false
set_option maxRecDepth 100000
/-- The letter at the bottom is one that only a ) takes away. -/
def BI : Stk → Prop
  | [] => False
  | [(c, _)] => c.toNat = 79 ∨ c.toNat = 67 ∨ c.toNat = 65
  | _ :: y :: r => BI (y :: r)
theorem BI.ne {x : Stk} (h : BI x) : x ≠ [] := by rintro rfl; exact h
theorem BI.push {c : UInt8} {p : Int} {x : Stk} (h : BI x) : BI ((c, p) :: x) := by
  cases x with
  | nil => exact h.elim
  | cons y r => exact h
theorem BI.one {c : UInt8} {p : Int} (h : c.toNat = 79 ∨ c.toNat = 67 ∨ c.toNat = 65) : BI [(c, p)] := h
/-- The place shifted. -/
def sh (d : Int) (x : Stk) : Stk := x.map fun y => (y.1, y.2 + d)
theorem rProgram_sh (st : Stk) (f : Bool) (c b : UInt8) (p d : Int) : rProgram (sh d st) f c b (p + d) = (sh d (rProgram st f c b p).1, (rProgram st f c b p).2) := by
  unfold rProgram
  repeat' split
  all_goals simp [sh, List.map_tail]
theorem rPlain_sh (st : Stk) (f : Bool) (c b : UInt8) (p d : Int) : rPlain (sh d st) f c b (p + d) = (sh d (rPlain st f c b p).1, (rPlain st f c b p).2) := by
  unfold rPlain
  refine ite_rel (fun x y : Stk × Bool => x = (sh d y.1, y.2)) (fun _ => rProgram_sh _ _ _ _ _ _) (fun _ => ?_)
  repeat' (refine ite_rel (fun x y : Stk × Bool => x = (sh d y.1, y.2)) (fun _ => ?_) (fun _ => ?_))
  all_goals first
    | (simp [sh, List.map_tail]; done)
    | (cases st <;> simp [sh])
theorem rStep_sh (st : Stk) (f : Bool) (b : UInt8) (p d : Int) : rStep (sh d st) f b (p + d) = (sh d (rStep st f b p).1, (rStep st f b p).2) := by
  match st with
  | [] => rfl
  | (c, x) :: r =>
    have h0 := rPlain_sh ((c, x) :: r) f c b p d
    have h1 := rPlain_sh ((67, x) :: r) f 67 b p d
    have h2 := rPlain_sh ((65, x) :: r) f 65 b p d
    simp only [sh, List.map_cons] at h0 h1 h2 ⊢
    unfold rStep
    refine ite_rel (fun x y : Stk × Bool => x = (sh d y.1, y.2)) (fun _ => ?_) (fun _ => ?_)
    · refine ite_rel (fun x y : Stk × Bool => x = (sh d y.1, y.2)) (fun _ => rfl) (fun _ => ?_)
      refine ite_rel (fun x y : Stk × Bool => x = (sh d y.1, y.2)) (fun _ => ?_) (fun _ => ?_)
      · cases r with
        | nil => rfl
        | cons y r => exact ite_rel (fun x y : Stk × Bool => x = (sh d y.1, y.2)) (fun _ => rfl) (fun _ => rfl)
      · refine ite_rel (fun x y : Stk × Bool => x = (sh d y.1, y.2)) (fun _ => rfl) (fun _ => ?_)
        cases r with
        | nil => rfl
        | cons y r => exact rPlain_sh (y :: r) f y.1 b p d
    · refine ite_rel (fun x y : Stk × Bool => x = (sh d y.1, y.2)) (fun _ => ?_) (fun _ => ?_)
      · exact ite_rel (fun x y : Stk × Bool => x = (sh d y.1, y.2)) (fun _ => rfl) (fun _ => h1)
      · exact ite_rel (fun x y : Stk × Bool => x = (sh d y.1, y.2)) (fun _ => ite_rel (fun x y : Stk × Bool => x = (sh d y.1, y.2)) (fun _ => rfl) (fun _ => h2)) (fun _ => h0)
/-- What a step over x ++ base does is what it does over x. -/
def Ab (base : Stk) (y x : Stk × Bool) : Prop := y = (x.1 ++ base, x.2) ∧ BI x.1
theorem rProgram_ab (c0 : UInt8) (q : Int) (r base : Stk) (f : Bool) (c b : UInt8) (p : Int) (h : BI ((c0, q) :: r)) (hb : b.toNat ≠ 41) (hc : c.toNat ≠ 84) :
    Ab base (rProgram ((c0, q) :: r ++ base) f c b p) (rProgram ((c0, q) :: r) f c b p) := by
  unfold rProgram
  repeat' (refine ite_rel (Ab base) (fun _ => ?_) (fun _ => ?_))
  all_goals first
    | exact ⟨rfl, h⟩
    | exact ⟨rfl, h.push⟩
    | omega
theorem BI.pop {c : UInt8} {q : Int} {r : Stk} (h : BI ((c, q) :: r)) (h1 : c.toNat ≠ 79) (h2 : c.toNat ≠ 67) (h3 : c.toNat ≠ 65) : BI r := by
  cases r with
  | nil => have : c.toNat = 79 ∨ c.toNat = 67 ∨ c.toNat = 65 := h
           omega
  | cons y r => exact h
theorem BI.turn {c d : UInt8} {q u : Int} {r : Stk} (h : BI ((c, q) :: r)) (hd : d.toNat = 79 ∨ d.toNat = 67 ∨ d.toNat = 65 ∨ r ≠ []) : BI ((d, u) :: r) := by
  cases r with
  | nil => rcases hd with h | h | h | h
           · exact .inl h
           · exact .inr (.inl h)
           · exact .inr (.inr h)
           · exact absurd rfl h
  | cons y r => exact h
theorem rPlain_ab (c : UInt8) (q : Int) (r base : Stk) (f : Bool) (b : UInt8) (p : Int) (h : BI ((c, q) :: r)) (hb : b.toNat ≠ 41) (hc : c.toNat ≠ 84) (h79 : c.toNat ≠ 79) :
    Ab base (rPlain ((c, q) :: r ++ base) f c b p) (rPlain ((c, q) :: r) f c b p) := by
  unfold rPlain
  refine ite_rel (Ab base) (fun _ => rProgram_ab _ _ _ _ _ _ _ _ h hb hc) (fun _ => ?_)
  repeat' (refine ite_rel (Ab base) (fun _ => ?_) (fun _ => ?_))
  all_goals first
    | exact ⟨rfl, h⟩
    | exact ⟨rfl, h.push⟩
    | exact ⟨rfl, h.pop (by omega) (by omega) (by omega)⟩
    | omega
/-- No Top in it. -/
def NT (x : Stk) : Prop := ∀ y ∈ x, y.1.toNat ≠ 84
theorem rStep_ab (x base : Stk) (f : Bool) (b : UInt8) (p : Int) (h : BI x) (hn : NT x) (hm : ∀ y ∈ x.tail, y.1.toNat ≠ 79) (hb : b.toNat ≠ 41) :
    Ab base (rStep (x ++ base) f b p) (rStep x f b p) := by
  match x, h with
  | (c, q) :: r, h =>
    have hc := hn (c, q) (by simp)
    show Ab base (rStep ((c, q) :: (r ++ base)) f b p) _
    unfold rStep
    refine ite_rel (Ab base) (fun h76 => ?_) (fun h76 => ?_)
    · have hr := h.pop (by omega) (by omega) (by omega)
      match r, hr with
      | (d, u) :: r2, hr =>
        refine ite_rel (Ab base) (fun _ => ⟨rfl, h.turn (.inl rfl)⟩) (fun _ => ?_)
        refine ite_rel (Ab base) (fun _ => ?_) (fun _ => ?_)
        · exact ite_rel (Ab base) (fun _ => ⟨rfl, hr.push⟩) (fun _ => ⟨rfl, hr.push⟩)
        · refine ite_rel (Ab base) (fun _ => ⟨rfl, hr⟩) (fun _ => ?_)
          exact rPlain_ab d u r2 base f b p hr hb (hn (d, u) (by simp)) (hm (d, u) (by simp))
    · refine ite_rel (Ab base) (fun h79 => ?_) (fun h79 => ?_)
      · exact ite_rel (Ab base) (fun _ => ⟨rfl, h.turn (.inr (.inr (.inl rfl)))⟩) (fun _ => rPlain_ab 67 q r base f b p (h.turn (.inr (.inl rfl))) hb (by decide) (by decide))
      · refine ite_rel (Ab base) (fun h69 => ?_) (fun _ => rPlain_ab c q r base f b p h hb hc h79)
        exact ite_rel (Ab base) (fun e => absurd e hb) (fun _ => rPlain_ab 65 q r base f b p (h.turn (.inr (.inr (.inl rfl)))) hb (by decide) (by decide))
theorem BI.sh {x : Stk} (h : BI x) (d : Int) : BI (sh d x) := by
  induction x with
  | nil => exact h.elim
  | cons y r ih =>
    cases r with
    | nil => exact h
    | cons z r => exact ih h
theorem NT.of_bot {x : Stk} {p : Int} (h : Bot (x ++ [(84, p)])) : NT x := by
  induction x with
  | nil => intro y hy; cases hy
  | cons z r ih =>
    have h' : z.1 ≠ 84 ∧ Bot (r ++ [(84, p)]) := by
      cases r with
      | nil => exact h
      | cons a r => exact h
    intro y hy
    rcases List.mem_cons.1 hy with rfl | hy
    · intro e; exact h'.1 (UInt8.toNat_inj.1 e)
    · exact ih h'.2 y hy
theorem NT.sh {x : Stk} (h : NT x) (d : Int) : NT (sh d x) := by
  intro y hy
  obtain ⟨z, hz, rfl⟩ := List.mem_map.1 hy
  exact h z hz
theorem mid_tail {x base : Stk} (h : Vst (x ++ base)) (hne : x ≠ []) : ∀ y ∈ x.tail, y.1.toNat ≠ 79 := by
  match x, hne with
  | z :: r, _ => exact fun y hy => (mid_ne y.1 (h.2 y (List.mem_append_left _ hy))).1
end Go.Proofs.Ytjkiapgboljabaa
