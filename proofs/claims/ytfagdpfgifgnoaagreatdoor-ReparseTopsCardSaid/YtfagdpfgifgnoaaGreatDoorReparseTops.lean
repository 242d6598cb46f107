/- ReparseTops: which nodes of a right tree are top commands is as the document says; for every row of nodes -/
import Derived.Test.YtfagdpfgifgnoaaGreatDoorWt14
import Derived.Test.YtfagdpfgifgnoaaGreatDoorCards
import Derived.Test.YtfagdpfgifgnoaaGreatDoorTie
import Derived.ChangeVars
import Derived.LaidLaws
import Derived.Lay
import Derived.SevenTiedAt
import Derived.Test.YtfagdpfgifgnoaaGreatDoorMem
namespace Go.Proofs.YtfagdpfgifgnoaaGreatDoor.reparseTops
open Go.ChangeShapes Go.WideShapes Go.ChangeAt Go.RowKit
open Go.ChangeMaps (open_string shut_string)
set_option linter.unusedVariables false
set_option linter.unusedSimpArgs false
set_option maxRecDepth 100000
theorem own:ownKnob Tryz.prog.godebug=none:=by kernel_rfl
theorem laidO:laidOutB Tryz.prog=true:=by kernel_rfl
set_option maxRecDepth 100000 in
theorem lifted (os:Os) (started:os.Started) (H:Type) (enc:TypeId×Value→H) :
    ReturnsInHanded {} Tryz.checked os 5 .any (fun w args=>(Rows.reparseTopsSpec.pre enc Tryz.prog Tryz.f5 [] false w args∧laidMetH Tryz.prog Rows.reparseTopsRow.laid w)∧sizedMet enc Tryz.prog Tryz.f5 (OpenSpec.ofChange Rows.reparseTopsSpec) false w args) (Rows.reparseTopsSpec.post enc Tryz.prog Tryz.f5 false true false false):=by
  refine returnsInHanded_of_change_and (C:=Tryz.checked) (X:=fun w _=>laidMetH Tryz.prog Rows.reparseTopsRow.laid w) (fun _ _ _ hh h=>h.of_heap hh) own started (by kernel_rfl) Tryz.func5
    (ChangeSpec.witness_shaped (enc:=enc) (C:=Tryz.checked) (os:=os) (X:=fun w _=>laidMetH Tryz.prog Rows.reparseTopsRow.laid w) false (World.laidAll Tryz.prog os Rows.reparseTopsRow.laid) #[.slice none 0 0] 8 (World.laidAll_os _ _ _)
      (World.shaped_of_ZipB (by kernel_rfl) (by kernel_rfl)) (by kernel_rfl) (by kernel_rfl) (by kernel_rfl)
      (by rw[MakeChecks.laidMetH_plain _ _ _ (by kernel_rfl)];exact laidMet_laidAll _ (by kernel_rfl) (by kernel_rfl))) ?_
  intro W base args ds gs before hval0 hW _ _ hL _
  have hval:∀(j:Nat) t v,Tryz.f5.params[j]? = some t→args[j]? = some v→Value.okWide Tryz.prog W .any base t v:=hval0
  have hW':=hW
  obtain⟨p,q,hA0,hV,rfl,hfz,hnd⟩:=hW
  have hA:DataW.TrodAll enc Tryz.prog W 0 (fun _=>true) true Tryz.f5.params.toList args.toList ds p:=hA0
  rw[Tryz.params5] at hA hval
  obtain⟨v0,vs0,d0,ds0,p0,q0,hargs,rfl,rfl,h0,r0⟩:=trodAll_cons hA
  obtain⟨rfl,rfl,rfl⟩:=trodAll_nil r0
  obtain rfl:args=#[v0]:=by cases args;simp_all
  obtain⟨rfl,rfl⟩:=trodVars_none hV
  obtain⟨A0,n0,c0,rfl⟩:=okWide_slice Tryz.underlying25 (hval 0 25 v0 rfl rfl)
  obtain⟨rows0,hl0,hr0,hrd0⟩:=BK [.i,.i,.i,.i] Tryz.underlying25 Tryz.underlying49 (by kernel_rfl) (by kernel_rfl) (by decide) h0
  obtain⟨xs0,hx0,hxl0⟩:=nz_rows rows0 hr0
  rw[hx0] at hrd0
  have hn0:n0=xs0.length:=by omega
  have hm0:n0≤9223372036854775807:=by obtain⟨_,A',c',hs,h1,h2,_⟩:=hrd0;cases hs;unfold maxLen at h2;omega
  clear hA0 hval0
  refine(reparseTops_w xs0 A0 n0 c0 W hrd0 hn0 hm0).mono fun e W' ⟨he,hg⟩=>?_
  subst he
  exact⟨_,rfl,Fj hW' hg rfl rfl (by kernel_rfl) (fun sp hsp=>by have hh:=(trodAll_cons_mk (Ex laidO (by kernel_rfl) (of_decide_eq_true (by kernel_rfl)) h0 hg (fun x hx=>hW'.lt x (by simp[hx])) (fun x hx=>hsp x (by simp[hx]))) trodAll_mk0);simpa using hh)⟩
theorem over:Rows.reparseTopsRow.holds Tryz.pinned (OpenSpec.ofChange Rows.reparseTopsSpec):=
  OpenClaim.holds_of_wide 5 Tryz.f5 rfl rfl rfl rfl rfl rfl rfl ⟨rfl,rfl,rfl,rfl,rfl⟩ rfl rfl rfl rfl rfl (by kernel_rfl) Tryz.func5 (by kernel_rfl)
    (of_decide_eq_true (by kernel_rfl)) (by unfold Func.isWrapper;first|(rw[if_pos (by decide +kernel)];kernel_rfl)|(rw[if_neg (by decide +kernel)];exact⟨rfl,rfl⟩))
    (fun os started H enc _=>lifted os started H enc)
end Go.Proofs.YtfagdpfgifgnoaaGreatDoor.reparseTops
namespace Go.Proofs.YtfagdpfgifgnoaaGreatDoor
theorem reparseTops_holds:Rows.ReparseTopsCardSaid:=
  Claim7.holds_tied_plain_at .later [] [.data,.pinned] true (true, "0494ce5a275d28eb8a1bdfc5c2a1f88207b6f230e153f56454010b6bb48d6b0e") false reparseTops.over (fun _ h=>by cases h) (by kernel_rfl) (fun _ h=>by cases h) reparseTops_row_tie rfl ⟨rfl,rfl⟩ (by kernel_rfl) rfl
    (fun f fn hf hfn=>by
      obtain rfl:f=5:=Option.some.inj ((show Tryz.prog.funcNamed "quillwort/quillwortlaw14.ReparseTops" = some 5 by kernel_rfl).symm.trans hf) |>.symm
      obtain rfl:fn=Tryz.f5:=(Option.some.inj (Tryz.func5.symm.trans hfn)).symm
      exact⟨by kernel_rfl,fun j t ht=>by
        rw[Tryz.params5] at ht
        have hm:t∈[25]:=by simpa using Array.mem_of_getElem? ht
        have hall:([25].all fun u => !Tryz.prog.wantsStandIn u)=true:=by kernel_rfl
        exact(show Tryz.prog.wantsStandIn t=false by simpa using List.all_eq_true.1 hall t hm)⟩)
    (by kernel_rfl)
end Go.Proofs.YtfagdpfgifgnoaaGreatDoor
