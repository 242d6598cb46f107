/- Paint: Name. The names lie in a package-level variable. -/
import Derived.Test.YtgdifhhioahakaaGreatDoorMem
import Derived.MakeChecks
import Derived.Lib.LaidU8
namespace Go.Proofs.YtgdifhhioahakaaGreatDoor
open Go.RowKit Go.ChangeShapes Go.WideShapes Go.ChangeAt
set_option linter.unusedVariables false
set_option linter.unusedSimpArgs false
set_option maxRecDepth 100000
def namesL:List (List UInt8):=[[],[98,108,97,110,107],[99,111,109,109,101,110,116],[111,112,101,114,97,116,111,114],[110,117,109,98,101,114],[114,101,115,101,114,118,101,100],[99,111,109,109,97,110,100],[97,114,103,117,109,101,110,116],[110,97,109,101],[113,117,111,116,101,100],[112,97,114,97,109,101,116,101,114],[115,117,98,115,116,105,116,117,116,105,111,110],[104,101,114,101,45,100,111,99,117,109,101,110,116],[101,114,114,111,114]]
def nameOf (i:Int):List UInt8:=if 0≤i∧i<14 then namesL.getD i.toNat [] else []
def NamesAt (w:World):Prop:=∀k,k<14→w.cell? ⟨0,k,none⟩=some (.string ⟨(namesL.getD k []).toArray⟩)
theorem NamesAt.below {w w':World} {B:Nat} (h:NamesAt w) (hb:Below B w w') (h0:0<B):NamesAt w':=fun k hk=>by
  rw[hb.cell (p:=⟨0,k,none⟩) h0]
  exact h k hk
set_option maxHeartbeats 1000000 in
theorem name_m24 (i:Int) (w:World) (hi : -9223372036854775808≤i∧i≤9223372036854775807) (hN:NamesAt w) :
    Calls Tryz.prog 11 #[.int .i64 i] w fun e w'=>e=.returned (.string ⟨(nameOf i).toArray⟩)∧w=w':=by
  unfold nameOf
  by_cases h0:i<0
  ·have t0:decide (i<0)=true:=by simpa using h0
   rw[if_neg (by omega)]
   clear hN
   go_enter Tryz.func11,Tryz.ntmps11
   go_wp2_with fail
   go_ret
   exact⟨rfl,rfl⟩
  ·have t0:decide (i<0)=false:=by simpa using h0
   by_cases h1:i<14
   ·have t1:decide (14≤i)=false:=by simp;omega
    obtain⟨k,rfl⟩:∃k:Nat,i=(k:Int):=⟨i.toNat,by omega⟩
    have hk:k<14:=by omega
    have y:=hN k hk
    rw[if_pos ⟨by omega,h1⟩,Int.toNat_natCast]
    obtain⟨s,hs⟩:∃s,s=namesL.getD k []:=⟨_,rfl⟩
    rw[←hs] at y ⊢
    have u1:(k:Int)<14:=by omega
    have u2:(0:Int)≤(k:Int):=by omega
    clear hN hs
    go_enter Tryz.func11,Tryz.ntmps11
    go_wp2_with fail
    go_ret
    exact⟨rfl,rfl⟩
   ·have t1:decide (14≤i)=true:=by simp;omega
    rw[if_neg (by omega)]
    clear hN
    go_enter Tryz.func11,Tryz.ntmps11
    go_wp2_with fail
    go_ret
    exact⟨rfl,rfl⟩
theorem names_one:(List.range 14).all (fun a=>(decide (namesL.getD a []=[])==decide (a=0))&&(List.range 14).all fun b=>decide (a=b)||decide (namesL.getD a []≠namesL.getD b []))=true:=by decide +kernel
theorem nameOf_some (a:Int):nameOf a≠[]↔1≤a∧a≤13:=by
  unfold nameOf
  by_cases h:0≤a∧a<14
  ·rw[if_pos h]
   have h1:=List.all_eq_true.1 names_one a.toNat (List.mem_range.2 (by omega))
   rw[Bool.and_eq_true] at h1
   have h2:=eq_of_beq h1.1
   by_cases h3:a.toNat=0
   ·rw[decide_eq_true h3] at h2
    exact⟨fun h4=>absurd (of_decide_eq_true h2) h4,fun h4=>by omega⟩
   ·rw[decide_eq_false h3] at h2
    exact⟨fun _=>by omega,fun _=>of_decide_eq_false h2⟩
  ·rw[if_neg h]
   exact⟨fun h2=>absurd rfl h2,fun h2=>absurd (by omega) h⟩
theorem nameOf_inj (a b:Int) (h:nameOf a≠[]) (e:nameOf a=nameOf b):a=b:=by
  have ha:=(nameOf_some a).1 h
  have hb:=(nameOf_some b).1 (by rw[←e];exact h)
  have h1:=List.all_eq_true.1 names_one a.toNat (List.mem_range.2 (by omega))
  rw[Bool.and_eq_true] at h1
  have h2:=List.all_eq_true.1 h1.2 b.toNat (List.mem_range.2 (by omega))
  rw[Bool.or_eq_true] at h2
  unfold nameOf at e
  rw[if_pos ⟨by omega,by omega⟩,if_pos ⟨by omega,by omega⟩] at e
  rcases h2 with h2|h2
  ·have:=of_decide_eq_true h2;omega
  ·exact absurd e (of_decide_eq_true h2)
end Go.Proofs.YtgdifhhioahakaaGreatDoor
