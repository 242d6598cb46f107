/- Plain laws of the machine's stack: which modes may stand where. No program is in sight. -/
import Derived.Test.YtjkiapgboljabaaPl06b
namespace Go.Proofs.Ytjkiapgboljabaa
set_option linter.unusedVariables false
set_option linter.unusedSimpArgs false
set_option maxRecDepth 100000
def Mid (c : UInt8) : Bool := [84, 67, 80, 66, 68, 86, 73, 65, 82].contains c
def Val (c : UInt8) : Bool := [84, 67, 80, 79, 83, 68, 66, 86, 73, 65, 82, 69, 76, 88, 35].contains c
theorem mid_val (c : UInt8) (h : Mid c = true) : Val c = true := by
  have := byte_all (fun c => !Mid c || Val c) (by decide +kernel) c
  simpa [h] using this
theorem mid_of (c : UInt8) (hv : Val c = true) (h1 : c.toNat ≠ 79) (h2 : c.toNat ≠ 69) (h3 : c.toNat ≠ 76) (h4 : c.toNat ≠ 88) (h5 : c.toNat ≠ 83) (h6 : c.toNat ≠ 35) : Mid c = true := by
  have := byte_all (fun c => !Val c || c.toNat == 79 || c.toNat == 69 || c.toNat == 76 || c.toNat == 88 || c.toNat == 83 || c.toNat == 35 || Mid c) (by decide +kernel) c
  simpa [hv, h1, h2, h3, h4, h5, h6] using this
def Vst : Stk → Prop
  | [] => True
  | (c, _) :: r => Val c = true ∧ ∀ y ∈ r, Mid y.1 = true
theorem Vst.of_mid {r : Stk} (h : ∀ y ∈ r, Mid y.1 = true) : Vst r := by
  cases r with
  | nil => trivial
  | cons x r => exact ⟨mid_val _ (h x (by simp)), fun y hy => h y (by simp [hy])⟩
theorem Vst.push {c d : UInt8} {p q : Int} {r : Stk} (hd : Val d = true) (hc : Mid c = true) (h : ∀ y ∈ r, Mid y.1 = true) : Vst ((d, q) :: (c, p) :: r) :=
  ⟨hd, fun y hy => by
    rcases List.mem_cons.1 hy with rfl | hy
    · exact hc
    · exact h y hy⟩
theorem Vst.turn {d : UInt8} {q : Int} {r : Stk} (hd : Val d = true) (h : ∀ y ∈ r, Mid y.1 = true) : Vst ((d, q) :: r) := ⟨hd, h⟩
theorem mid3 (c : UInt8) (h : c.toNat = 84 ∨ c.toNat = 67 ∨ c.toNat = 80) : Mid c = true := by
  have := byte_all (fun c => !(c.toNat == 84 || c.toNat == 67 || c.toNat == 80) || Mid c) (by decide +kernel) c
  rcases h with h | h | h <;> simpa [h] using this
theorem mid66 (c : UInt8) (h : c.toNat = 66) : Mid c = true := by
  have := byte_all (fun c => !(c.toNat == 66) || Mid c) (by decide +kernel) c
  simpa [h] using this
theorem rProgram_v (r : Stk) (f : Bool) (c b : UInt8) (p at_ : Int) (hv : Val c = true) (hc : Mid c = true) (h : ∀ y ∈ r, Mid y.1 = true) : Vst (rProgram ((c, p) :: r) f c b at_).1 := by
  unfold rProgram
  repeat' (refine ite_ok (fun x : Stk × Bool => Vst x.1) (fun _ => ?_) (fun _ => ?_))
  all_goals first
    | exact Vst.push (by decide) hc h
    | exact ⟨hv, h⟩
    | exact Vst.of_mid h
theorem rPlain_v (r : Stk) (f : Bool) (c b : UInt8) (p at_ : Int) (hv : Val c = true) (h79 : c.toNat ≠ 79) (h69 : c.toNat ≠ 69) (h76 : c.toNat ≠ 76) (h : ∀ y ∈ r, Mid y.1 = true) : Vst (rPlain ((c, p) :: r) f c b at_).1 := by
  unfold rPlain
  repeat' (refine ite_ok (fun x : Stk × Bool => Vst x.1) (fun _ => ?_) (fun _ => ?_))
  all_goals first
    | exact rProgram_v _ _ _ _ _ _ hv (mid3 c (by omega)) h
    | exact ⟨hv, h⟩
    | exact Vst.of_mid h
    | exact Vst.turn (by decide) h
    | exact Vst.push (by decide) (mid66 c (by omega)) h
    | exact Vst.push (by decide) (mid_of c hv h79 h69 h76 (by omega) (by omega) (by omega)) h
theorem mid_ne (d : UInt8) (h : Mid d = true) : d.toNat ≠ 79 ∧ d.toNat ≠ 69 ∧ d.toNat ≠ 76 := by
  have := byte_all (fun c => !Mid c || (c.toNat != 79 && c.toNat != 69 && c.toNat != 76)) (by decide +kernel) d
  simpa [h, and_assoc] using this
theorem rStep_v (st : Stk) (f : Bool) (b : UInt8) (at_ : Int) (h : Vst st) : Vst (rStep st f b at_).1 := by
  match st, h with
  | [], _ => trivial
  | (c, p) :: r, ⟨hv, h⟩ =>
    unfold rStep
    refine ite_ok (fun x : Stk × Bool => Vst x.1) (fun hc => ?_) (fun _ => ?_)
    · refine ite_ok (fun x : Stk × Bool => Vst x.1) (fun _ => Vst.turn (by decide) h) (fun _ => ?_)
      refine ite_ok (fun x : Stk × Bool => Vst x.1) (fun _ => ?_) (fun _ => ?_)
      · cases r with
        | nil => exact Vst.turn (by decide) h
        | cons x r => obtain ⟨d, q⟩ := x; exact ite_ok (fun x : Stk × Bool => Vst x.1) (fun _ => Vst.turn (by decide) h) (fun _ => Vst.turn (by decide) h)
      · refine ite_ok (fun x : Stk × Bool => Vst x.1) (fun _ => Vst.of_mid h) (fun _ => ?_)
        cases r with
        | nil => trivial
        | cons x r =>
          obtain ⟨d, q⟩ := x
          have hd := h (d, q) (by simp)
          obtain ⟨h1, h2, h3⟩ := mid_ne d hd
          exact rPlain_v _ _ _ _ _ _ (mid_val _ hd) h1 h2 h3 (fun y hy => h y (by simp [hy]))
    · refine ite_ok (fun x : Stk × Bool => Vst x.1) (fun _ => ?_) (fun _ => ?_)
      · exact ite_ok (fun x : Stk × Bool => Vst x.1) (fun _ => Vst.turn (by decide) h) (fun _ => rPlain_v _ _ _ _ _ _ (by decide) (by decide) (by decide) (by decide) h)
      · refine ite_ok (fun x : Stk × Bool => Vst x.1) (fun _ => ?_) (fun _ => rPlain_v _ _ _ _ _ _ hv (by omega) (by omega) (by omega) h)
        exact ite_ok (fun x : Stk × Bool => Vst x.1) (fun _ => Vst.of_mid h) (fun _ => rPlain_v _ _ _ _ _ _ (by decide) (by decide) (by decide) (by decide) h)
theorem rAt_v (l : List UInt8) : ∀ k, Vst (rAt l k).1
  | 0 => ⟨by decide, by simp⟩
  | k + 1 => rStep_v _ _ _ _ (rAt_v l k)
end Go.Proofs.Ytjkiapgboljabaa
