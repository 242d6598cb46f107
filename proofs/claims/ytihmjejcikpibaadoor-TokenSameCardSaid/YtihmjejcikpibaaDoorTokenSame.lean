/- TokenSame: the claim. -/
import Derived.Test.YtihmjejcikpibaaDoorLawP
import Derived.Test.YtihmjejcikpibaaDoorCards
import Derived.Test.YtihmjejcikpibaaDoorTie
import Derived.ChangeVars
import Derived.LaidLaws
import Derived.Lay
import Derived.SevenTiedAt
import Derived.Test.YtihmjejcikpibaaDoorMem
import Derived.Test.YtihmjejcikpibaaDoorSl9
namespace Go.Proofs.YtihmjejcikpibaaDoor.tokenSame
open Go.ChangeShapes Go.WideShapes Go.ChangeAt Go.RowKit
open Go.ChangeMaps (open_string shut_string)
set_option linter.unusedVariables false
set_option linter.unusedSimpArgs false
set_option maxRecDepth 100000
theorem own : ownKnob Tryd.prog.godebug = none := by kernel_rfl
theorem laidO : laidOutB Tryd.prog = true := by kernel_rfl
set_option maxRecDepth 100000 in
theorem lifted (os : Os) (started : os.Started) (H : Type) (enc : TypeId × Value → H) :
    ReturnsInHanded {} Tryd.checked os 6 .any (fun w args => (Rows.tokenSameSpec.pre enc Tryd.prog Tryd.f6 [] false w args ∧ laidMetH Tryd.prog Rows.tokenSameRow.laid w) ∧ sizedMet enc Tryd.prog Tryd.f6 (OpenSpec.ofChange Rows.tokenSameSpec) false w args) (Rows.tokenSameSpec.post enc Tryd.prog Tryd.f6 false true false false) := by
  refine returnsInHanded_of_change_and (C := Tryd.checked) (X := fun w _ => laidMetH Tryd.prog Rows.tokenSameRow.laid w) (fun _ _ _ hh h => h.of_heap hh) own started (by kernel_rfl) Tryd.func6
    (ChangeSpec.witness_shaped (enc := enc) (C := Tryd.checked) (os := os) (X := fun w _ => laidMetH Tryd.prog Rows.tokenSameRow.laid w) false (World.laidAll Tryd.prog os Rows.tokenSameRow.laid) #[.agg #[.int .i64 0, .slice none 0 0, .bool false], .agg #[.int .i64 0, .slice none 0 0, .bool false]] 8 (World.laidAll_os _ _ _)
      (World.shaped_of_ZipB (by kernel_rfl) (by kernel_rfl)) (by kernel_rfl) (by kernel_rfl) (by kernel_rfl)
      (by rw [MakeChecks.laidMetH_plain _ _ _ (by kernel_rfl)]; exact laidMet_laidAll _ (by kernel_rfl) (by kernel_rfl))) ?_
  intro W base args ds gs before hval0 hW _ _ hL _
  have hval : ∀ (j : Nat) t v, Tryd.f6.params[j]? = some t → args[j]? = some v → Value.okWide Tryd.prog W .any base t v := hval0
  have hW' := hW
  obtain ⟨p, q, hA0, hV, rfl, hfz, hnd⟩ := hW
  have hA : DataW.TrodAll enc Tryd.prog W 0 (fun _ => true) true Tryd.f6.params.toList args.toList ds p := hA0
  rw [Tryd.params6] at hA hval
  obtain ⟨v0, vs0, d0, ds0, p0, q0, hargs, rfl, rfl, h0, r0⟩ := trodAll_cons hA
  obtain ⟨v1, vs1, d1, ds1, p1, q1, rfl, rfl, rfl, h1, r1⟩ := trodAll_cons r0
  obtain ⟨rfl, rfl, rfl⟩ := trodAll_nil r1
  obtain rfl : args = #[v0, v1] := by cases args; simp_all
  obtain ⟨rfl, rfl⟩ := trodVars_none hV
  obtain ⟨X0, A0, c0, rfl, hrd0, hm0⟩ := open_lexing (hval 0 26 v0 rfl rfl) h0
  obtain ⟨X1, A1, c1, rfl, hrd1, hm1⟩ := open_lexing (hval 1 26 v1 rfl rfl) h1
  clear hA0 hval0
  refine (tokenSame_w X0 A0 c0 X1 A1 c1 W hrd0 hm0 hrd1 hm1).mono fun e W' ⟨he, hg⟩ => ?_
  subst he
  exact ⟨_, rfl, law_post hW' hg rfl rfl (by kernel_rfl) (fun sp hsp => by have hh := (trodAll_cons_mk (stays_arg laidO (by kernel_rfl) (of_decide_eq_true (by kernel_rfl)) h0 hg (fun x hx => hW'.lt x (by simp [hx])) (fun x hx => hsp x (by simp [hx]))) (trodAll_cons_mk (stays_arg laidO (by kernel_rfl) (of_decide_eq_true (by kernel_rfl)) h1 hg (fun x hx => hW'.lt x (by simp [hx])) (fun x hx => hsp x (by simp [hx]))) trodAll_mk0)); simpa using hh)⟩
theorem over : Rows.tokenSameRow.holds Tryd.pinned (OpenSpec.ofChange Rows.tokenSameSpec) :=
  OpenClaim.holds_of_wide 6 Tryd.f6 rfl rfl rfl rfl rfl rfl rfl ⟨rfl, rfl, rfl, rfl, rfl⟩ rfl rfl rfl rfl rfl (by kernel_rfl) Tryd.func6 (by kernel_rfl)
    (of_decide_eq_true (by kernel_rfl)) (by unfold Func.isWrapper; first | (rw [if_pos (by decide +kernel)]; kernel_rfl) | (rw [if_neg (by decide +kernel)]; exact ⟨rfl, rfl⟩))
    (fun os started H enc _ => lifted os started H enc)
end Go.Proofs.YtihmjejcikpibaaDoor.tokenSame
namespace Go.Proofs.YtihmjejcikpibaaDoor
/-- The statement: the tied card. -/
theorem tokenSame_holds : Rows.TokenSameCardSaid :=
  Claim7.holds_tied_plain_at .later [] [.data, .pinned] true (true, "aeb7be85a40ad8cdef2c2959ebb2c957d0c01200d636cee63b8377d8bc41abdc") false tokenSame.over (fun _ h => by cases h) (by kernel_rfl) (fun _ h => by cases h) tokenSame_row_tie rfl ⟨rfl, rfl⟩ (by kernel_rfl) rfl
    (fun f fn hf hfn => by
      obtain rfl : f = 6 := Option.some.inj ((show Tryd.prog.funcNamed "quillwort/quillwortlaw09.TokenSame" = some 6 by kernel_rfl).symm.trans hf) |>.symm
      obtain rfl : fn = Tryd.f6 := (Option.some.inj (Tryd.func6.symm.trans hfn)).symm
      exact ⟨by kernel_rfl, fun j t ht => by
        rw [Tryd.params6] at ht
        have hm : t ∈ [26, 26] := by simpa using Array.mem_of_getElem? ht
        have hall : ([26, 26].all fun u => !Tryd.prog.wantsStandIn u) = true := by kernel_rfl
        exact (show Tryd.prog.wantsStandIn t = false by simpa using List.all_eq_true.1 hall t hm)⟩)
    (by kernel_rfl)
end Go.Proofs.YtihmjejcikpibaaDoor
