/- quillwortlaw11.SameTree of two equal rows; ParseTrees: the walk. -/
import Derived.Test.YtlbfdbinaekjoaaGreatDoorRh13
import Derived.Test.YtlbfdbinaekjoaaGreatDoorQc13
import Derived.Test.YtlbfdbinaekjoaaGreatDoorRj13
import Derived.Test.YtlbfdbinaekjoaaGreatDoorAl13
import Derived.Test.YtlbfdbinaekjoaaGreatDoorSh13
namespace Go.Proofs.YtlbfdbinaekjoaaGreatDoor
open Go.RowKit
set_option linter.unusedVariables false
set_option linter.unusedSimpArgs false
set_option maxRecDepth 100000
set_option maxHeartbeats 1000000 in
theorem sametree_m (ts:List Nd) (A A':Option Addr) (c c':Nat) (w:World) (hl:ts.length≤100000) (h1:Rd w w.heap.size 4 (.slice A ts.length c) ts.length (ndcs ts)) (h2:Rd w w.heap.size 4 (.slice A' ts.length c') ts.length (ndcs ts)) :
    Calls Tryz.prog 7 #[.slice A ts.length c,.slice A' ts.length c'] w fun e w'=>e=.returned (.bool true)∧Below w.heap.size w w':=by
  have H0:=Lib.hid (And.intro h1 h2)
  clear h1 h2
  go_enter Tryz.func7,Tryz.ntmps7
  go_wp2
  go_loopw [5] (fun i wr=>∃k:Nat,k≤ts.length∧i=.int .i64 k∧Below w.heap.size w wr) (fun i _=>ts.length-(intOf i).toNat)
  case atStart=>exact⟨0,Nat.zero_le _,rfl,Below.refl _ _⟩
  case round=>
    obtain⟨k,hk,rfl,hb⟩:=hrel
    by_cases hlt:k<ts.length
    ·have u1:(k:Int)<(ts.length:Int):=by omega
     have u2:(0:Int)≤(k:Int):=by omega
     obtain⟨t,ht⟩:∃t,ts[k]? = some t:=⟨_,List.getElem?_eq_getElem hlt⟩
     obtain⟨g,o,rfl,_,hc⟩:=rd_sat ndc_len (H0.out.1.keep hb (Nat.le_refl _)) ht rfl
     obtain⟨g',o',rfl,_,hc'⟩:=rd_sat ndc_len (H0.out.2.keep hb (Nat.le_refl _)) ht rfl
     have y0:wr.cell? ⟨g,o+k*4,none⟩=some (.int .i64 (t.kd:Int)):=hc 0 _ rfl
     have y1:wr.cell? ⟨g,o+k*4+1,none⟩=some (.int .i64 (t.fr:Int)):=hc 1 _ rfl
     have y2:wr.cell? ⟨g,o+k*4+2,none⟩=some (.int .i64 (t.tt:Int)):=hc 2 _ rfl
     have y3:wr.cell? ⟨g,o+k*4+3,none⟩=some (.int .i64 t.up):=hc 3 _ rfl
     have z0:wr.cell? ⟨g',o'+k*4,none⟩=some (.int .i64 (t.kd:Int)):=hc' 0 _ rfl
     have z1:wr.cell? ⟨g',o'+k*4+1,none⟩=some (.int .i64 (t.fr:Int)):=hc' 1 _ rfl
     have z2:wr.cell? ⟨g',o'+k*4+2,none⟩=some (.int .i64 (t.tt:Int)):=hc' 2 _ rfl
     have z3:wr.cell? ⟨g',o'+k*4+3,none⟩=some (.int .i64 t.up):=hc' 3 _ rfl
     have HB:=Lib.hid hb
     clear hb hc hc' ht
     go_wp2_with fail
     go_quiet (fail)
     go_wp2_with fail
     exact⟨⟨k+1,by omega,by go_num,below_drewN' HB.out _⟩,by simp[intOf]<;>omega⟩
    ·obtain rfl:k=ts.length:=by omega
     have HB:=Lib.hid hb
     clear hb
     go_wp2_with fail
     go_ret
     exact⟨rfl,HB.out⟩
end Go.Proofs.YtlbfdbinaekjoaaGreatDoor
