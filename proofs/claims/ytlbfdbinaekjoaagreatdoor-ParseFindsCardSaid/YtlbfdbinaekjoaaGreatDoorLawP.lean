/- The last step of a law: the call answered true and kept all that was there; so the row's post holds. -/
import Derived.Test.YtlbfdbinaekjoaaGreatDoorRows
import Derived.WalkKit
import Derived.ProofKit
import Derived.OpenShut
import Derived.ShutString
import Derived.Below
import Derived.ChangeSame
namespace Go.Proofs.YtlbfdbinaekjoaaGreatDoor
open Go.ChangeShapes Go.WideShapes Go.ChangeAt Go.RowKit
set_option linter.unusedVariables false
set_option linter.unusedSimpArgs false
set_option maxRecDepth 100000
theorem law_post {H:Type} {enc:TypeId×Value→H} {f:Func} {s:ChangeSpec} {apart fresh handsOn again:Bool} {W W':World} {args:Array Value} {ds:List (DataW H)} {pl:List MemPlace}
    (hW:DataW.Whole enc Tryz.prog f.params.toList s.vars apart W args.toList ds [] pl) (hb:Below W.heap.size W W') (hv:s.vars=[])
    (hfn:s.fn H (ds++[])={results:=[.lit (.bool true)],args:=ds,vars:=[]}) (hres:f.resultTypes=#[4])
    (hargs:∀sp:Nat→Bool,(∀p∈pl,sp p.block=true)→DataW.TrodAll enc Tryz.prog W' 0 sp true f.params.toList args.toList ds pl) :
    s.post enc Tryz.prog f apart fresh handsOn again W args (.bool true) W':=by
  have old:∀p∈pl,p.block<W.heap.size:=fun p hp=>hW.lt p hp
  have hR:∀(b:Nat) (sp:Nat→Bool) (hd:Bool),DataW.TrodAll enc Tryz.prog W' b sp hd f.resultTypes.toList ((Value.bool true).resultList f.resultTypes.size) (s.fn H (ds++[])).results []:=by
    intro b sp hd
    rw[hres,hfn]
    exact trodAll_cons_mk (shut_bool Tryz.underlying4 _) trodAll_mk0
  have hA:∀sp:Nat→Bool,(∀p∈pl,sp p.block=true)→DataW.TrodAll enc Tryz.prog W' 0 sp true f.params.toList args.toList (s.fn H (ds++[])).args pl:=by
    intro sp h
    rw[hfn]
    exact hargs sp h
  have hV:∀sp:Nat→Bool,DataW.TrodVars enc Tryz.prog W' sp s.vars (s.fn H (ds++[])).vars []:=by
    intro sp
    rw[hfn,hv]
    rfl
  refine⟨ds,[],pl,[],pl,[],hW,hR _ _ _,hA _ (fun p hp=>by simpa using old p hp),hV _,World.keptBut_mono (fun p hp=>⟨hp,?_⟩) (hb.frame (· ∈ pl)),fun _=>?_⟩
  ·simpa using hp
  ·obtain⟨_,_,_,_,_,hz,hn⟩:=hW
   refine⟨?_,_,_,pl++[],⟨[]++pl,[],trodAll_append (hA _ (fun _ _=>rfl)) (hR _ _ _),hV _,by simp,?_,?_⟩,?_⟩
   ·exact ok_one (by rw[hres]) rfl (okWide_bool_mk Tryz.underlying4 _)
   ·intro b off hp
    have hin:MemPlace.cell b off∈pl:=by simpa using hp
    rw[hb.frozen (old _ hin)]
    exact hz b off hin
   ·intro ha
    simpa using hn ha
   ·intro p hp _
    simpa using hp
end Go.Proofs.YtlbfdbinaekjoaaGreatDoor
