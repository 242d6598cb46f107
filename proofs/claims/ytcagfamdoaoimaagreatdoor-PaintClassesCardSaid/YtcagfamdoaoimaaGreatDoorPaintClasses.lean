/- The class of each byte of any text is as the document says. -/
import Derived.Test.YtcagfamdoaoimaaGreatDoorRq24
import Derived.Test.YtcagfamdoaoimaaGreatDoorCards
import Derived.Test.YtcagfamdoaoimaaGreatDoorTie
import Derived.ChangeVars
import Derived.LaidLaws
import Derived.Lay
import Derived.SevenTiedAt
namespace Go.Proofs.YtcagfamdoaoimaaGreatDoor.paintClasses
open Go.ChangeShapes Go.WideShapes Go.ChangeAt Go.RowKit
open Go.ChangeMaps (open_string shut_string)
set_option linter.unusedVariables false
set_option linter.unusedSimpArgs false
set_option maxRecDepth 100000
theorem own:ownKnob Tryz.prog.godebug=none:=by kernel_rfl
set_option maxRecDepth 100000 in
theorem lifted (os:Os) (started:os.Started) (H:Type) (enc:TypeId×Value→H) :
    ReturnsInHanded {} Tryz.checked os 4 .any (fun w args=>(Rows.paintClassesSpec.pre enc Tryz.prog Tryz.f4 [] false w args∧laidMetH Tryz.prog Rows.paintClassesRow.laid w)∧sizedMet enc Tryz.prog Tryz.f4 (OpenSpec.ofChange Rows.paintClassesSpec) false w args) (Rows.paintClassesSpec.post enc Tryz.prog Tryz.f4 false true false false):=by
  refine returnsInHanded_of_change_and (C:=Tryz.checked) (X:=fun w _=>laidMetH Tryz.prog Rows.paintClassesRow.laid w) (fun _ _ _ hh h=>h.of_heap hh) own started (by kernel_rfl) Tryz.func4
    (ChangeSpec.witness_shaped (enc:=enc) (C:=Tryz.checked) (os:=os) (X:=fun w _=>laidMetH Tryz.prog Rows.paintClassesRow.laid w) false (World.laidAll Tryz.prog os Rows.paintClassesRow.laid) #[.string ByteArray.empty] 8 (World.laidAll_os _ _ _)
      (World.shaped_of_ZipB (by kernel_rfl) (by kernel_rfl)) (by kernel_rfl) (by kernel_rfl) (by kernel_rfl)
      (by rw[MakeChecks.laidMetH_plain _ _ _ (by kernel_rfl)];exact laidMet_laidAll _ (by kernel_rfl) (by kernel_rfl))) ?_
  intro W base args ds gs before hval0 hW _ _ hL _
  have hval:∀(j:Nat) t v,Tryz.f4.params[j]? = some t→args[j]? = some v→Value.okWide Tryz.prog W .any base t v:=hval0
  have hW':=hW
  obtain⟨p,q,hA0,hV,rfl,hfz,hnd⟩:=hW
  have hA:DataW.TrodAll enc Tryz.prog W 0 (fun _=>true) true Tryz.f4.params.toList args.toList ds p:=hA0
  rw[Tryz.params4] at hA hval
  obtain⟨v0,vs0,d0,ds0,p0,q0,hargs,rfl,rfl,h0,r0⟩:=trodAll_cons hA
  obtain⟨rfl,rfl,rfl⟩:=trodAll_nil r0
  obtain rfl:args=#[v0]:=by cases args;simp_all
  obtain⟨rfl,rfl⟩:=trodVars_none hV
  obtain⟨a0,rfl,rfl,rfl,w0⟩:=open_string Tryz.underlying9 (hval 0 9 v0 rfl rfl) h0
  clear hA0 hval0
  simp only[bG] at hW'
  obtain⟨l0,rfl⟩:=NH a0
  refine(FI l0 W w0).mono fun e W' ⟨he,hg⟩=>?_
  subst he
  exact⟨_,rfl,MY hW' hg rfl rfl (by kernel_rfl) (fun sp hsp=>(trodAll_cons_mk (shut_string Tryz.underlying9 w0) trodAll_mk0))⟩
theorem over:Rows.paintClassesRow.holds Tryz.pinned (OpenSpec.ofChange Rows.paintClassesSpec):=
  OpenClaim.holds_of_wide 4 Tryz.f4 rfl rfl rfl rfl rfl rfl rfl ⟨rfl,rfl,rfl,rfl,rfl⟩ rfl rfl rfl rfl rfl (by kernel_rfl) Tryz.func4 (by kernel_rfl)
    (cT (by kernel_rfl)) (by unfold Func.isWrapper;first|(rw[aC (by decide +kernel)];kernel_rfl)|(rw[aB (by decide +kernel)];exact⟨rfl,rfl⟩))
    (fun os started H enc _=>lifted os started H enc)
end Go.Proofs.YtcagfamdoaoimaaGreatDoor.paintClasses
namespace Go.Proofs.YtcagfamdoaoimaaGreatDoor
theorem paintClasses_holds:Rows.PaintClassesCardSaid:=
  Claim7.holds_tied_plain_at .later [] [.data,.pinned] true (true, "1705362d337c1b68cc5b458ce92a615623f76b4715b811623780d490fd0eb08a") false paintClasses.over (fun _ h=>by cases h) (by kernel_rfl) (fun _ h=>by cases h) paintClasses_row_tie rfl ⟨rfl,rfl⟩ (by kernel_rfl) rfl
    (fun f fn hf hfn=>by
      obtain rfl:f=4:=Option.some.inj ((show Tryz.prog.funcNamed "quillwort/quillwortlaw24.PaintClasses" = some 4 by kernel_rfl).symm.trans hf) |>.symm
      obtain rfl:fn=Tryz.f4:=(Option.some.inj (Tryz.func4.symm.trans hfn)).symm
      exact⟨by kernel_rfl,fun j t ht=>by
        rw[Tryz.params4] at ht
        have hm:t∈[9]:=by simpa using Array.mem_of_getElem? ht
        have hall:([9].all fun u => !Tryz.prog.wantsStandIn u)=true:=by kernel_rfl
        exact(show Tryz.prog.wantsStandIn t=false by simpa using bK.1 hall t hm)⟩)
    (by kernel_rfl)
end Go.Proofs.YtcagfamdoaoimaaGreatDoor
