/- Where a cursor goes from any place, forward and back, and the stops around it, are as the document says. -/
import Derived.Test.YtcagfamdoaoimaaGreatDoorZs29
import Derived.Test.YtcagfamdoaoimaaGreatDoorCards
import Derived.Test.YtcagfamdoaoimaaGreatDoorTie
import Derived.ChangeVars
import Derived.LaidLaws
import Derived.Lay
import Derived.SevenTiedAt
import Derived.Test.YtcagfamdoaoimaaGreatDoorWm29
namespace Go.Proofs.YtcagfamdoaoimaaGreatDoor.motionMoves
open Go.ChangeShapes Go.WideShapes Go.ChangeAt Go.RowKit
open Go.ChangeMaps (open_string shut_string)
set_option linter.unusedVariables false
set_option linter.unusedSimpArgs false
set_option maxRecDepth 100000
theorem own:ownKnob Tryz.prog.godebug=none:=by kernel_rfl
set_option maxRecDepth 100000 in
theorem lifted (os:Os) (started:os.Started) (H:Type) (enc:TypeId×Value→H) :
    ReturnsInHanded {} Tryz.checked os 9 .any (fun w args=>(Rows.motionMovesSpec.pre enc Tryz.prog Tryz.f9 [] false w args∧laidMetH Tryz.prog Rows.motionMovesRow.laid w)∧sizedMet enc Tryz.prog Tryz.f9 (OpenSpec.ofChange Rows.motionMovesSpec) false w args) (Rows.motionMovesSpec.post enc Tryz.prog Tryz.f9 false true false false):=by
  refine returnsInHanded_of_change_and (C:=Tryz.checked) (X:=fun w _=>laidMetH Tryz.prog Rows.motionMovesRow.laid w) (fun _ _ _ hh h=>h.of_heap hh) own started (by kernel_rfl) Tryz.func9
    (ChangeSpec.witness_shaped (enc:=enc) (C:=Tryz.checked) (os:=os) (X:=fun w _=>laidMetH Tryz.prog Rows.motionMovesRow.laid w) false (World.laidAll Tryz.prog os Rows.motionMovesRow.laid) #[.string ByteArray.empty,.int .i64 0,.int .i64 0] 8 (World.laidAll_os _ _ _)
      (World.shaped_of_ZipB (by kernel_rfl) (by kernel_rfl)) (by kernel_rfl) (by kernel_rfl) (by kernel_rfl)
      (by rw[MakeChecks.laidMetH_plain _ _ _ (by kernel_rfl)];exact laidMet_laidAll _ (by kernel_rfl) (by kernel_rfl))) ?_
  intro W base args ds gs before hval0 hW _ _ hL _
  have hval:∀(j:Nat) t v,Tryz.f9.params[j]? = some t→args[j]? = some v→Value.okWide Tryz.prog W .any base t v:=hval0
  have hW':=hW
  obtain⟨p,q,hA0,hV,rfl,hfz,hnd⟩:=hW
  have hA:DataW.TrodAll enc Tryz.prog W 0 (fun _=>true) true Tryz.f9.params.toList args.toList ds p:=hA0
  rw[Tryz.params9] at hA hval
  obtain⟨v0,vs0,d0,ds0,p0,q0,hargs,rfl,rfl,h0,r0⟩:=trodAll_cons hA
  obtain⟨v1,vs1,d1,ds1,p1,q1,rfl,rfl,rfl,h1,r1⟩:=trodAll_cons r0
  obtain⟨v2,vs2,d2,ds2,p2,q2,rfl,rfl,rfl,h2,r2⟩:=trodAll_cons r1
  obtain⟨rfl,rfl,rfl⟩:=trodAll_nil r2
  obtain rfl:args=#[v0,v1,v2]:=by cases args;simp_all
  obtain⟨rfl,rfl⟩:=trodVars_none hV
  obtain⟨a0,rfl,rfl,rfl,w0⟩:=open_string Tryz.underlying9 (hval 0 9 v0 rfl rfl) h0
  obtain⟨a1,rfl,rfl,rfl,w1⟩:=open_int Tryz.underlying3 (hval 1 3 v1 rfl rfl) h1
  obtain⟨a2,rfl,rfl,rfl,w2⟩:=open_int Tryz.underlying3 (hval 2 3 v2 rfl rfl) h2
  clear hA0 hval0
  simp only[bz] at hW'
  obtain⟨l0,rfl⟩:=NQ a0
  have x1 : -9223372036854775808≤a1∧a1≤9223372036854775807:=by simpa [Lit.wf,IntKind.min,IntKind.max,IntKind.signed,IntKind.bits] using w1
  have x2 : -9223372036854775808≤a2∧a2≤9223372036854775807:=by simpa [Lit.wf,IntKind.min,IntKind.max,IntKind.signed,IntKind.bits] using w2
  refine(Ij l0 a1 a2 W w0 x1 x2).mono fun e W' ⟨he,hg⟩=>?_
  subst he
  exact⟨_,rfl,Ng hW' hg rfl rfl (by kernel_rfl) (fun sp hsp=>(trodAll_cons_mk (shut_string Tryz.underlying9 w0) (trodAll_cons_mk (shut_int Tryz.underlying3 w1) (trodAll_cons_mk (shut_int Tryz.underlying3 w2) trodAll_mk0))))⟩
theorem over:Rows.motionMovesRow.holds Tryz.pinned (OpenSpec.ofChange Rows.motionMovesSpec):=
  OpenClaim.holds_of_wide 9 Tryz.f9 rfl rfl rfl rfl rfl rfl rfl ⟨rfl,rfl,rfl,rfl,rfl⟩ rfl rfl rfl rfl rfl (by kernel_rfl) Tryz.func9 (by kernel_rfl)
    (cU (by kernel_rfl)) (by unfold Func.isWrapper;first|(rw[aD (by decide +kernel)];kernel_rfl)|(rw[aB (by decide +kernel)];exact⟨rfl,rfl⟩))
    (fun os started H enc _=>lifted os started H enc)
end Go.Proofs.YtcagfamdoaoimaaGreatDoor.motionMoves
namespace Go.Proofs.YtcagfamdoaoimaaGreatDoor
theorem motionMoves_holds:Rows.MotionMovesCardSaid:=
  Claim7.holds_tied_plain_at .later [] [.data,.pinned] true (true, "1705362d337c1b68cc5b458ce92a615623f76b4715b811623780d490fd0eb08a") false motionMoves.over (fun _ h=>by cases h) (by kernel_rfl) (fun _ h=>by cases h) motionMoves_row_tie rfl ⟨rfl,rfl⟩ (by kernel_rfl) rfl
    (fun f fn hf hfn=>by
      obtain rfl:f=9:=Option.some.inj ((show Tryz.prog.funcNamed "quillwort/quillwortlaw29.MotionMoves" = some 9 by kernel_rfl).symm.trans hf) |>.symm
      obtain rfl:fn=Tryz.f9:=(Option.some.inj (Tryz.func9.symm.trans hfn)).symm
      exact⟨by kernel_rfl,fun j t ht=>by
        rw[Tryz.params9] at ht
        have hm:t∈[9,3,3]:=by simpa using Array.mem_of_getElem? ht
        have hall:([9,3,3].all fun u => !Tryz.prog.wantsStandIn u)=true:=by kernel_rfl
        exact(show Tryz.prog.wantsStandIn t=false by simpa using bS.1 hall t hm)⟩)
    (by kernel_rfl)
end Go.Proofs.YtcagfamdoaoimaaGreatDoor
