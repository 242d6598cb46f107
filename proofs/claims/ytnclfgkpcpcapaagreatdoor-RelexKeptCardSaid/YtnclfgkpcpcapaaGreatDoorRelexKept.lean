/- RelexKept: the claim. -/
import Derived.Test.YtnclfgkpcpcapaaGreatDoorLawP
import Derived.Test.YtnclfgkpcpcapaaGreatDoorRkf10
import Derived.Test.YtnclfgkpcpcapaaGreatDoorRkl10
import Derived.Test.YtnclfgkpcpcapaaGreatDoorCards
import Derived.Test.YtnclfgkpcpcapaaGreatDoorTie
import Derived.ChangeVars
import Derived.LaidLaws
import Derived.Lay
import Derived.SevenTiedAt
import Derived.Test.YtnclfgkpcpcapaaGreatDoorMem
import Derived.Test.YtnclfgkpcpcapaaGreatDoorWk10
namespace Go.Proofs.YtnclfgkpcpcapaaGreatDoor.relexKept
open Go.ChangeShapes Go.WideShapes Go.ChangeAt Go.RowKit
open Go.ChangeMaps (open_string shut_string)
set_option linter.unusedVariables false
set_option linter.unusedSimpArgs false
set_option maxRecDepth 100000
theorem own:ownKnob Tryz.prog.godebug=none:=by kernel_rfl
theorem laidO:laidOutB Tryz.prog=true:=by kernel_rfl
set_option maxRecDepth 100000 in
theorem lifted (os:Os) (started:os.Started) (H:Type) (enc:TypeId×Value→H) :
    ReturnsInHanded {} Tryz.checked os 3 .any (fun w args=>(Rows.relexKeptSpec.pre enc Tryz.prog Tryz.f3 [] false w args∧laidMetH Tryz.prog Rows.relexKeptRow.laid w)∧sizedMet enc Tryz.prog Tryz.f3 (OpenSpec.ofChange Rows.relexKeptSpec) false w args) (Rows.relexKeptSpec.post enc Tryz.prog Tryz.f3 false true false false):=by
  refine returnsInHanded_of_change_and (C:=Tryz.checked) (X:=fun w _=>laidMetH Tryz.prog Rows.relexKeptRow.laid w) (fun _ _ _ hh h=>h.of_heap hh) own started (by kernel_rfl) Tryz.func3
    (ChangeSpec.witness_shaped (enc:=enc) (C:=Tryz.checked) (os:=os) (X:=fun w _=>laidMetH Tryz.prog Rows.relexKeptRow.laid w) false (World.laidAll Tryz.prog os Rows.relexKeptRow.laid) #[.string ByteArray.empty,.agg #[.int .i64 0,.string ByteArray.empty,.string ByteArray.empty]] 8 (World.laidAll_os _ _ _)
      (World.shaped_of_ZipB (by kernel_rfl) (by kernel_rfl)) (by kernel_rfl) (by kernel_rfl) (by kernel_rfl)
      (by rw[MakeChecks.laidMetH_plain _ _ _ (by kernel_rfl)];exact laidMet_laidAll _ (by kernel_rfl) (by kernel_rfl))) ?_
  intro W base args ds gs before hval0 hW _ _ hL _
  have hval:∀(j:Nat) t v,Tryz.f3.params[j]? = some t→args[j]? = some v→Value.okWide Tryz.prog W .any base t v:=hval0
  have hW':=hW
  obtain⟨p,q,hA0,hV,rfl,hfz,hnd⟩:=hW
  have hA:DataW.TrodAll enc Tryz.prog W 0 (fun _=>true) true Tryz.f3.params.toList args.toList ds p:=hA0
  rw[Tryz.params3] at hA hval
  obtain⟨v0,vs0,d0,ds0,p0,q0,hargs,rfl,rfl,h0,r0⟩:=trodAll_cons hA
  obtain⟨v1,vs1,d1,ds1,p1,q1,rfl,rfl,rfl,h1,r1⟩:=trodAll_cons r0
  obtain⟨rfl,rfl,rfl⟩:=trodAll_nil r1
  obtain rfl:args=#[v0,v1]:=by cases args;simp_all
  obtain⟨rfl,rfl⟩:=trodVars_none hV
  obtain⟨a0,rfl,rfl,rfl,w0⟩:=open_string Tryz.underlying9 (hval 0 9 v0 rfl rfl) h0
  obtain⟨cs1,rfl,hcl1,hq1⟩:=open_struct [.i,.s,.s] Tryz.underlying23 (by kernel_rfl) (by kernel_rfl) (hval 1 23 v1 rfl rfl) h1
  obtain⟨z1,rfl⟩:=ez_row cs1 hcl1 hq1
  clear hA0 hval0
  obtain⟨l0,rfl⟩:=ba_of a0
  refine(relexKept_w l0 z1 W w0).mono fun e W' ⟨he,hg⟩=>?_
  subst he
  exact⟨_,rfl,law_post hW' hg rfl rfl (by kernel_rfl) (fun sp hsp=>by have hh:=(trodAll_cons_mk (shut_string Tryz.underlying9 w0) (trodAll_cons_mk (stays_arg laidO (by kernel_rfl) (of_decide_eq_true (by kernel_rfl)) h1 hg (fun x hx=>hW'.lt x (by simp[hx])) (fun x hx=>hsp x (by simp[hx]))) trodAll_mk0));simpa using hh)⟩
theorem over:Rows.relexKeptRow.holds Tryz.pinned (OpenSpec.ofChange Rows.relexKeptSpec):=
  OpenClaim.holds_of_wide 3 Tryz.f3 rfl rfl rfl rfl rfl rfl rfl ⟨rfl,rfl,rfl,rfl,rfl⟩ rfl rfl rfl rfl rfl (by kernel_rfl) Tryz.func3 relexKept_joined
    (of_decide_eq_true (by kernel_rfl)) (by unfold Func.isWrapper;first|(rw[if_pos (by decide +kernel)];kernel_rfl)|(rw[if_neg (by decide +kernel)];exact⟨rfl,rfl⟩))
    (fun os started H enc _=>lifted os started H enc)
end Go.Proofs.YtnclfgkpcpcapaaGreatDoor.relexKept
namespace Go.Proofs.YtnclfgkpcpcapaaGreatDoor
theorem relexKept_holds:Rows.RelexKeptCardSaid:=
  Claim7.holds_tied_plain_at .later [] [.data,.pinned] true (true, "14e76f775b9ef5b3ea155fb236e18b5d4579ceb115c092016dd1a96d5fc0f700") false relexKept.over (fun _ h=>by cases h) rk_l4 (fun _ h=>by cases h) relexKept_row_tie rfl ⟨rfl,rfl⟩ rk_l2 rfl
    (fun f fn hf hfn=>by
      obtain rfl:f=3:=Option.some.inj ((show Tryz.prog.funcNamed "quillwort/quillwortlaw10.RelexKept" = some 3 by kernel_rfl).symm.trans hf) |>.symm
      obtain rfl:fn=Tryz.f3:=(Option.some.inj (Tryz.func3.symm.trans hfn)).symm
      exact⟨rk_l1,fun j t ht=>by
        rw[Tryz.params3] at ht
        have hm:t∈[9,23]:=by simpa using Array.mem_of_getElem? ht
        have hall:([9,23].all fun u => !Tryz.prog.wantsStandIn u)=true:=by kernel_rfl
        exact(show Tryz.prog.wantsStandIn t=false by simpa using List.all_eq_true.1 hall t hm)⟩)
    rk_l3
end Go.Proofs.YtnclfgkpcpcapaaGreatDoor
