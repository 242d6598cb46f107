/- ParseFinds: if any leaves have a derivation, whatever it is, it is the tree that is found; for every row of leaves and every row of nodes -/
import Derived.Test.YtlbfdbinaekjoaaGreatDoorLawP
import Derived.Test.YtlbfdbinaekjoaaGreatDoorCards
import Derived.Test.YtlbfdbinaekjoaaGreatDoorTie
import Derived.ChangeVars
import Derived.LaidLaws
import Derived.Lay
import Derived.SevenTiedAt
import Derived.Test.YtlbfdbinaekjoaaGreatDoorMem
import Derived.Test.YtlbfdbinaekjoaaGreatDoorGm13
namespace Go.Proofs.YtlbfdbinaekjoaaGreatDoor.parseFinds
open Go.ChangeShapes Go.WideShapes Go.ChangeAt Go.RowKit
open Go.ChangeMaps (open_string shut_string)
set_option linter.unusedVariables false
set_option linter.unusedSimpArgs false
set_option maxRecDepth 100000
theorem own:ownKnob Tryz.prog.godebug=none:=by kernel_rfl
theorem laidO:laidOutB Tryz.prog=true:=by kernel_rfl
set_option maxRecDepth 100000 in
theorem lifted (os:Os) (started:os.Started) (H:Type) (enc:TypeId×Value→H) :
    ReturnsInHanded {} Tryz.checked os 3 .any (fun w args=>(Rows.parseFindsSpec.pre enc Tryz.prog Tryz.f3 [] false w args∧laidMetH Tryz.prog Rows.parseFindsRow.laid w)∧sizedMet enc Tryz.prog Tryz.f3 (OpenSpec.ofChange Rows.parseFindsSpec) false w args) (Rows.parseFindsSpec.post enc Tryz.prog Tryz.f3 false true false false):=by
  refine returnsInHanded_of_change_and (C:=Tryz.checked) (X:=fun w _=>laidMetH Tryz.prog Rows.parseFindsRow.laid w) (fun _ _ _ hh h=>h.of_heap hh) own started (by kernel_rfl) Tryz.func3
    (ChangeSpec.witness_shaped (enc:=enc) (C:=Tryz.checked) (os:=os) (X:=fun w _=>laidMetH Tryz.prog Rows.parseFindsRow.laid w) false (World.laidAll Tryz.prog os Rows.parseFindsRow.laid) #[.slice none 0 0,.slice none 0 0] 8 (World.laidAll_os _ _ _)
      (World.shaped_of_ZipB (by kernel_rfl) (by kernel_rfl)) (by kernel_rfl) (by kernel_rfl) (by kernel_rfl)
      (by rw[MakeChecks.laidMetH_plain _ _ _ (by kernel_rfl)];exact laidMet_laidAll _ (by kernel_rfl) (by kernel_rfl))) ?_
  intro W base args ds gs before hval0 hW _ _ hL _
  have hval:∀(j:Nat) t v,Tryz.f3.params[j]? = some t→args[j]? = some v→Value.okWide Tryz.prog W .any base t v:=hval0
  have hW':=hW
  obtain⟨p,q,hA0,hV,rfl,hfz,hnd⟩:=hW
  have hA:DataW.TrodAll enc Tryz.prog W 0 (fun _=>true) true Tryz.f3.params.toList args.toList ds p:=hA0
  rw[Tryz.params3] at hA hval
  obtain⟨v0,vs0,d0,ds0,p0,q0,hargs,rfl,rfl,h0,r0⟩:=trodAll_cons hA
  obtain⟨v1,vs1,d1,ds1,p1,q1,rfl,rfl,rfl,h1,r1⟩:=trodAll_cons r0
  obtain⟨rfl,rfl,rfl⟩:=trodAll_nil r1
  obtain rfl:args=#[v0,v1]:=by cases args;simp_all
  obtain⟨rfl,rfl⟩:=trodVars_none hV
  obtain⟨A0,n0,c0,rfl⟩:=okWide_slice Tryz.underlying22 (hval 0 22 v0 rfl rfl)
  obtain⟨rows0,hl0,hr0,hrd0⟩:=open_structs [.i,.s,.i,.i] Tryz.underlying22 Tryz.underlying35 (by kernel_rfl) (by kernel_rfl) (by decide) h0
  obtain⟨xs0,hx0,hxl0⟩:=lf_rows rows0 hr0
  rw[hx0] at hrd0
  have hn0:n0=xs0.length:=by omega
  have hm0:n0≤9223372036854775807:=by obtain⟨_,A',c',hs,h1,h2,_⟩:=hrd0;cases hs;unfold maxLen at h2;omega
  obtain⟨A1,n1,c1,rfl⟩:=okWide_slice Tryz.underlying23 (hval 1 23 v1 rfl rfl)
  obtain⟨rows1,hl1,hr1,hrd1⟩:=open_structs [.i,.i,.i,.i] Tryz.underlying23 Tryz.underlying38 (by kernel_rfl) (by kernel_rfl) (by decide) h1
  obtain⟨xs1,hx1,hxl1⟩:=nz_rows rows1 hr1
  rw[hx1] at hrd1
  have hn1:n1=xs1.length:=by omega
  have hm1:n1≤9223372036854775807:=by obtain⟨_,A',c',hs,h1,h2,_⟩:=hrd1;cases hs;unfold maxLen at h2;omega
  clear hA0 hval0
  refine(parseFinds_w xs0 A0 n0 c0 xs1 A1 n1 c1 W hrd0 hn0 hm0 hrd1 hn1 hm1).mono fun e W' ⟨he,hg⟩=>?_
  subst he
  exact⟨_,rfl,law_post hW' hg rfl rfl (by kernel_rfl) (fun sp hsp=>by have hh:=(trodAll_cons_mk (stays_arg laidO (by kernel_rfl) (of_decide_eq_true (by kernel_rfl)) h0 hg (fun x hx=>hW'.lt x (by simp[hx])) (fun x hx=>hsp x (by simp[hx]))) (trodAll_cons_mk (stays_arg laidO (by kernel_rfl) (of_decide_eq_true (by kernel_rfl)) h1 hg (fun x hx=>hW'.lt x (by simp[hx])) (fun x hx=>hsp x (by simp[hx]))) trodAll_mk0));simpa using hh)⟩
theorem over:Rows.parseFindsRow.holds Tryz.pinned (OpenSpec.ofChange Rows.parseFindsSpec):=
  OpenClaim.holds_of_wide 3 Tryz.f3 rfl rfl rfl rfl rfl rfl rfl ⟨rfl,rfl,rfl,rfl,rfl⟩ rfl rfl rfl rfl rfl (by kernel_rfl) Tryz.func3 (by kernel_rfl)
    (of_decide_eq_true (by kernel_rfl)) (by unfold Func.isWrapper;first|(rw[if_pos (by decide +kernel)];kernel_rfl)|(rw[if_neg (by decide +kernel)];exact⟨rfl,rfl⟩))
    (fun os started H enc _=>lifted os started H enc)
end Go.Proofs.YtlbfdbinaekjoaaGreatDoor.parseFinds
namespace Go.Proofs.YtlbfdbinaekjoaaGreatDoor
theorem parseFinds_holds:Rows.ParseFindsCardSaid:=
  Claim7.holds_tied_plain_at .later [] [.data,.pinned] true (true, "cf98e5451e2f0e8e75c2915b0922bffa65ace139acb72b2e87d209d35460e8ff") false parseFinds.over (fun _ h=>by cases h) (by kernel_rfl) (fun _ h=>by cases h) parseFinds_row_tie rfl ⟨rfl,rfl⟩ (by kernel_rfl) rfl
    (fun f fn hf hfn=>by
      obtain rfl:f=3:=Option.some.inj ((show Tryz.prog.funcNamed "quillwort/quillwortlaw13.ParseFinds" = some 3 by kernel_rfl).symm.trans hf) |>.symm
      obtain rfl:fn=Tryz.f3:=(Option.some.inj (Tryz.func3.symm.trans hfn)).symm
      exact⟨by kernel_rfl,fun j t ht=>by
        rw[Tryz.params3] at ht
        have hm:t∈[22,23]:=by simpa using Array.mem_of_getElem? ht
        have hall:([22,23].all fun u => !Tryz.prog.wantsStandIn u)=true:=by kernel_rfl
        exact(show Tryz.prog.wantsStandIn t=false by simpa using List.all_eq_true.1 hall t hm)⟩)
    (by kernel_rfl)
end Go.Proofs.YtlbfdbinaekjoaaGreatDoor
