/- A stack's letters are those of its modes, one each: the law ModesShow answers true at every input, and the input reads as it did. No condition. -/
import Derived.Test.YtailnilhhbjkmaaLawP
import Derived.Test.YtailnilhhbjkmaaArg
import Derived.Test.YtailnilhhbjkmaaLawS
namespace Go.Proofs.Ytailnilhhbjkmaa.modesShow
open Go.ChangeShapes Go.WideShapes Go.ChangeAt Go.RowKit
open Go.ChangeMaps (open_string shut_string)
set_option linter.unusedVariables false
set_option linter.unusedSimpArgs false
theorem own : ownKnob Try.prog.godebug = none := by kernel_rfl
theorem laidO : laidOutB Try.prog = true := by kernel_rfl
set_option maxRecDepth 100000 in
theorem lifted (os : Os) (started : os.Started) (H : Type) (enc : TypeId × Value → H) :
    ReturnsInHanded {} Try.checked os 5 .any (Rows.modesShowSpec.pre6 enc Try.prog Try.f5 Rows.modesShowRow.domain false) (Rows.modesShowSpec.post enc Try.prog Try.f5 false true false false) := by
  refine returnsInHanded_of_change (C := Try.checked) own started (by kernel_rfl) Try.func5
    (ChangeSpec.witness6 (enc := enc) (C := Try.checked) false ⟨#[], #[.slice none 0 0], []⟩ 8 (by kernel_rfl) (by kernel_rfl) (by kernel_rfl) (by kernel_rfl)) ?_
  intro W base args ds gs before hval0 hW hcnd _
  have hval : ∀ (j : Nat) t v, Try.f5.params[j]? = some t → args[j]? = some v → Value.okWide Try.prog W .any base t v := hval0
  have hW' := hW
  obtain ⟨p, q, hA0, hV, rfl, hfz, hnd⟩ := hW
  have hA : DataW.TrodAll enc Try.prog W 0 (fun _ => true) true Try.f5.params.toList args.toList ds p := hA0
  rw [Try.params5] at hA hval
  obtain ⟨v0, vs0, d0, ds0, p0, q0, hargs, rfl, rfl, h0, r0⟩ := trodAll_cons hA
  obtain ⟨rfl, rfl, rfl⟩ := trodAll_nil r0
  obtain rfl : args = #[v0] := by cases args; simp_all
  obtain ⟨rfl, rfl⟩ := trodVars_none hV
  obtain ⟨A0, n0, c0, rfl⟩ := okWide_slice Try.underlying23 (hval 0 23 v0 rfl rfl)
  obtain ⟨rows0, hl0, hr0, hrd0⟩ := open_structs [.i, .i] Try.underlying23 Try.underlying38 (by kernel_rfl) (by kernel_rfl) (by decide) h0
  obtain ⟨xs0, hx0, hxl0⟩ := fr_rows rows0 hr0
  rw [hx0] at hrd0
  have hn0 : n0 = xs0.length := by omega
  have hm0 : n0 ≤ 9223372036854775807 := by obtain ⟨_, A', c', hs, h1, h2, _⟩ := hrd0; cases hs; unfold maxLen at h2; omega
  clear hA0 hval0
  refine (modesShow_w xs0 A0 n0 c0 W hrd0 hn0 hm0).mono fun e W' ⟨he, hg⟩ => ?_
  subst he
  exact ⟨_, rfl, law_post hW' hg rfl rfl (by kernel_rfl) (fun sp hsp => by have hh := (trodAll_cons_mk (stays_arg laidO (by kernel_rfl) (of_decide_eq_true (by kernel_rfl)) h0 hg (fun x hx => hW'.lt x (by simp [hx])) (fun x hx => hsp x (by simp [hx]))) trodAll_mk0); simpa using hh)⟩
theorem over : Rows.modesShowRow.holds Try.pinned (OpenSpec.ofChange Rows.modesShowSpec) :=
  OpenClaim.holds_of_wide 5 Try.f5 rfl rfl rfl rfl rfl rfl rfl ⟨rfl, rfl, rfl, rfl, rfl⟩ rfl rfl rfl rfl rfl (by kernel_rfl) Try.func5 (by kernel_rfl)
    (of_decide_eq_true (by kernel_rfl)) (by unfold Func.isWrapper; first | (rw [if_pos (by decide +kernel)]; kernel_rfl) | (rw [if_neg (by decide +kernel)]; exact ⟨rfl, rfl⟩))
    (fun os started H enc _ => lifted os started H enc)
end Go.Proofs.Ytailnilhhbjkmaa.modesShow
namespace Go.Proofs.Ytailnilhhbjkmaa
/-- The statement. -/
theorem modesShow_holds : Rows.ModesShowSaid := modesShow.over
end Go.Proofs.Ytailnilhhbjkmaa
