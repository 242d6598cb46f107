/- RelexAhead: the claim. -/
import Derived.Test.YtclllfmbldeneaaGreatDoorLawP
import Derived.Test.YtclllfmbldeneaaGreatDoorCards
import Derived.Test.YtclllfmbldeneaaGreatDoorTie
import Derived.ChangeVars
import Derived.LaidLaws
import Derived.Lay
import Derived.SevenTiedAt
import Derived.Test.YtclllfmbldeneaaGreatDoorMem
import Derived.Test.YtclllfmbldeneaaGreatDoorWa10
namespace Go.Proofs.YtclllfmbldeneaaGreatDoor.relexAhead
open Go.ChangeShapes Go.WideShapes Go.ChangeAt Go.RowKit
open Go.ChangeMaps (open_string shut_string)
set_option linter.unusedVariables false
set_option linter.unusedSimpArgs false
set_option maxRecDepth 100000
theorem own:ownKnob Tryz.prog.godebug=none:=by kernel_rfl
theorem laidO:laidOutB Tryz.prog=true:=by kernel_rfl
set_option maxRecDepth 100000 in
theorem lifted (os:Os) (started:os.Started) (H:Type) (enc:TypeId×Value→H) :
    ReturnsInHanded {} Tryz.checked os 6 .any (fun w args=>(Rows.relexAheadSpec.pre enc Tryz.prog Tryz.f6 [] false w args∧laidMetH Tryz.prog Rows.relexAheadRow.laid w)∧sizedMet enc Tryz.prog Tryz.f6 (OpenSpec.ofChange Rows.relexAheadSpec) false w args) (Rows.relexAheadSpec.post enc Tryz.prog Tryz.f6 false true false false):=by
  refine returnsInHanded_of_change_and (C:=Tryz.checked) (X:=fun w _=>laidMetH Tryz.prog Rows.relexAheadRow.laid w) (fun _ _ _ hh h=>h.of_heap hh) own started (by kernel_rfl) Tryz.func6
    (ChangeSpec.witness_shaped (enc:=enc) (C:=Tryz.checked) (os:=os) (X:=fun w _=>laidMetH Tryz.prog Rows.relexAheadRow.laid w) false (World.laidAll Tryz.prog os Rows.relexAheadRow.laid) #[.string ByteArray.empty,.slice none 0 0,.int .i64 0] 8 (World.laidAll_os _ _ _)
      (World.shaped_of_ZipB (by kernel_rfl) (by kernel_rfl)) (by kernel_rfl) (by kernel_rfl) (by kernel_rfl)
      (by rw[MakeChecks.laidMetH_plain _ _ _ (by kernel_rfl)];exact laidMet_laidAll _ (by kernel_rfl) (by kernel_rfl))) ?_
  intro W base args ds gs before hval0 hW _ _ hL _
  have hval:∀(j:Nat) t v,Tryz.f6.params[j]? = some t→args[j]? = some v→Value.okWide Tryz.prog W .any base t v:=hval0
  have hW':=hW
  obtain⟨p,q,hA0,hV,rfl,hfz,hnd⟩:=hW
  have hA:DataW.TrodAll enc Tryz.prog W 0 (fun _=>true) true Tryz.f6.params.toList args.toList ds p:=hA0
  rw[Tryz.params6] at hA hval
  obtain⟨v0,vs0,d0,ds0,p0,q0,hargs,rfl,rfl,h0,r0⟩:=trodAll_cons hA
  obtain⟨v1,vs1,d1,ds1,p1,q1,rfl,rfl,rfl,h1,r1⟩:=trodAll_cons r0
  obtain⟨v2,vs2,d2,ds2,p2,q2,rfl,rfl,rfl,h2,r2⟩:=trodAll_cons r1
  obtain⟨rfl,rfl,rfl⟩:=trodAll_nil r2
  obtain rfl:args=#[v0,v1,v2]:=by cases args;simp_all
  obtain⟨rfl,rfl⟩:=trodVars_none hV
  obtain⟨a0,rfl,rfl,rfl,w0⟩:=open_string Tryz.underlying9 (hval 0 9 v0 rfl rfl) h0
  obtain⟨A1,n1,c1,rfl⟩:=okWide_slice Tryz.underlying42 (hval 1 42 v1 rfl rfl)
  obtain⟨rows1,hl1,hr1,hrd1⟩:=open_structs [.i,.s,.s] Tryz.underlying42 Tryz.underlying23 (by kernel_rfl) (by kernel_rfl) (by decide) h1
  obtain⟨xs1,hx1,hxl1⟩:=ez_rows rows1 hr1
  rw[hx1] at hrd1
  have hn1:n1=xs1.length:=by omega
  have hm1:n1≤9223372036854775807:=by obtain⟨_,A',c',hs,h1,h2,_⟩:=hrd1;cases hs;unfold maxLen at h2;omega
  obtain⟨a2,rfl,rfl,rfl,w2⟩:=open_int Tryz.underlying3 (hval 2 3 v2 rfl rfl) h2
  clear hA0 hval0
  obtain⟨l0,rfl⟩:=ba_of a0
  have x2 : -9223372036854775808≤a2∧a2≤9223372036854775807:=by simpa [Lit.wf,IntKind.min,IntKind.max,IntKind.signed,IntKind.bits] using w2
  refine(relexAhead_w l0 xs1 A1 n1 c1 a2 W w0 hrd1 hn1 hm1 x2).mono fun e W' ⟨he,hg⟩=>?_
  subst he
  exact⟨_,rfl,law_post hW' hg rfl rfl (by kernel_rfl) (fun sp hsp=>by have hh:=(trodAll_cons_mk (shut_string Tryz.underlying9 w0) (trodAll_cons_mk (stays_arg laidO (by kernel_rfl) (of_decide_eq_true (by kernel_rfl)) h1 hg (fun x hx=>hW'.lt x (by simp[hx])) (fun x hx=>hsp x (by simp[hx]))) (trodAll_cons_mk (shut_int Tryz.underlying3 w2) trodAll_mk0)));simpa using hh)⟩
theorem over:Rows.relexAheadRow.holds Tryz.pinned (OpenSpec.ofChange Rows.relexAheadSpec):=
  OpenClaim.holds_of_wide 6 Tryz.f6 rfl rfl rfl rfl rfl rfl rfl ⟨rfl,rfl,rfl,rfl,rfl⟩ rfl rfl rfl rfl rfl (by kernel_rfl) Tryz.func6 (by kernel_rfl)
    (of_decide_eq_true (by kernel_rfl)) (by unfold Func.isWrapper;first|(rw[if_pos (by decide +kernel)];kernel_rfl)|(rw[if_neg (by decide +kernel)];exact⟨rfl,rfl⟩))
    (fun os started H enc _=>lifted os started H enc)
end Go.Proofs.YtclllfmbldeneaaGreatDoor.relexAhead
namespace Go.Proofs.YtclllfmbldeneaaGreatDoor
theorem relexAhead_holds:Rows.RelexAheadCardSaid:=
  Claim7.holds_tied_plain_at .later [] [.data,.pinned] true (true, "4d1beb1b4eafbf59cd3ce453750c3abd957875abbbee28f7baeacf0d02ea26b7") false relexAhead.over (fun _ h=>by cases h) (by kernel_rfl) (fun _ h=>by cases h) relexAhead_row_tie rfl ⟨rfl,rfl⟩ (by kernel_rfl) rfl
    (fun f fn hf hfn=>by
      obtain rfl:f=6:=Option.some.inj ((show Tryz.prog.funcNamed "quillwort/quillwortlaw10.RelexAhead" = some 6 by kernel_rfl).symm.trans hf) |>.symm
      obtain rfl:fn=Tryz.f6:=(Option.some.inj (Tryz.func6.symm.trans hfn)).symm
      exact⟨by kernel_rfl,fun j t ht=>by
        rw[Tryz.params6] at ht
        have hm:t∈[9,42,3]:=by simpa using Array.mem_of_getElem? ht
        have hall:([9,42,3].all fun u => !Tryz.prog.wantsStandIn u)=true:=by kernel_rfl
        exact(show Tryz.prog.wantsStandIn t=false by simpa using List.all_eq_true.1 hall t hm)⟩)
    (by kernel_rfl)
end Go.Proofs.YtclllfmbldeneaaGreatDoor
