/- PaintNames: the walk, and where the names lie. -/
import Derived.Test.YtgdifhhioahakaaGreatDoorAw24
import Derived.Test.YtgdifhhioahakaaGreatDoorNa24
import Derived.Test.YtgdifhhioahakaaGreatDoorRows
import Derived.LaidSub
import Derived.LaidLaws
namespace Go.Proofs.YtgdifhhioahakaaGreatDoor
open Go.RowKit Go.ChangeShapes Go.WideShapes Go.ChangeAt
set_option linter.unusedVariables false
set_option linter.unusedSimpArgs false
set_option maxRecDepth 100000
theorem names_at {W:World} (h:laidMetH Tryz.prog Rows.paintNamesRow.laid W):NamesAt W:=by
  have h:=h.filter fun x=>x.1 == "quillwort/paint.names"
  have e:(Rows.paintNamesRow.laid.filter fun x=>x.1 == "quillwort/paint.names") = [("quillwort/paint.names", Rows.laid_quillwort_paint_names)]:=by kernel_rfl
  rw[e,MakeChecks.laidMetH_plain _ _ _ (by kernel_rfl)] at h
  obtain⟨ps,⟨g,t,cs,fuel,p,q,hg,ht,hv,hd,_,_⟩,_,_⟩:=h
  obtain rfl:=Option.some.inj ((show Tryz.prog.globalNamed "quillwort/paint.names" = some 0 by kernel_rfl).symm.trans hg)
  obtain rfl:=Option.some.inj ((show (Tryz.prog.globals[0]?).map (·.type)=some 44 by kernel_rfl).symm.trans ht)
  obtain⟨xs,m,_,ex,_,hl,hel⟩:=DataW.trod_array Tryz.underlying44 hd
  intro r hr
  have c5:Tryz.prog.cellsOf 9=1:=by kernel_rfl
  have hE:=hel r hr
  rw[c5,Nat.mul_one,List.getElem?_eq_getElem (by omega)] at hE
  obtain⟨z,e1,e2,_⟩:=DataW.trod_string Tryz.underlying9 hE
  have hlen:namesL.length=14:=by kernel_rfl
  have e3:(xs.map (·.1))=namesL.map fun n=>.lit (.string n):=(DataW.agg.inj (Prod.mk.inj ex).1).symm
  have e4:(xs.map (·.1))[r]? = (namesL.map fun n=>(DataW.lit (.string n):DataW Unit))[r]? := by rw[e3]
  rw[List.getElem?_map,List.getElem?_map,List.getElem?_eq_getElem (by omega:r<xs.length),List.getElem?_eq_getElem (by omega:r<namesL.length),e2] at e4
  have hz:z=⟨(namesL.getD r []).toArray⟩:=by
    simp only[Option.map_some,Option.some.injEq,DataW.lit.injEq,Lit.string.injEq] at e4
    rw[List.getD,List.getElem?_eq_getElem (by omega:r<namesL.length)]
    have e5:z.data.toList=namesL[r]'(by omega):=by first|exact e4|exact e4.symm
    show z=⟨(namesL[r]'(by omega)).toArray⟩
    rw[←e5]
  rw[World.var?_cell hg hv r,←hz]
  have:cs.toList[r]? = some (.string z):=by
    have h0:((cs.toList.drop r).take 1)[0]? = some (.string z):=by rw[e1];rfl
    simpa using h0
  simpa using this
theorem block_of_cell24 {w:World} {a:Addr} {v:Value} (h:w.cell? a=some v):a.block<w.heap.size:=by
  unfold World.cell? at h
  cases hb:w.heap[a.block]? with
  | none=>simp[hb] at h
  | some o=>exact(Array.getElem?_eq_some_iff.1 hb).1
set_option maxHeartbeats 4000000 in
theorem paintNames_w (a b:Int) (w:World) (ha : -9223372036854775808≤a∧a≤9223372036854775807) (hb : -9223372036854775808≤b∧b≤9223372036854775807) (hN:NamesAt w) :
    Calls Tryz.prog 4 #[.int .i64 a,.int .i64 b] w fun e w'=>e=.returned (.bool true)∧Below w.heap.size w w':=by
  have hw0:0<w.heap.size:=block_of_cell24 (hN 0 (by decide))
  have hc:∀(i:Int),(-9223372036854775808≤i∧i≤9223372036854775807)→∀W,Below w.heap.size w W→Calls Tryz.prog 11 #[.int .i64 i] W fun e w'=>e=.returned (.string ⟨(nameOf i).toArray⟩)∧W=w':=fun i hi W hW=>name_m24 i W hi (hN.below hW hw0)
  have ca:=hc a ha
  have cb:=hc b hb
  have hs:=nameOf_some a
  have hi:=nameOf_inj a b
  obtain⟨S,hS⟩:∃S,S=nameOf a:=⟨_,rfl⟩
  obtain⟨T,hT⟩:∃T,T=nameOf b:=⟨_,rfl⟩
  rw[←hS] at ca hs hi
  rw[←hT] at cb hi
  have HC:=Lib.hid (And.intro ca (And.intro cb (And.intro hs hi)))
  clear hc ca cb hs hi hS hT ha hb hN
  by_cases h0:S=[]
  ·subst h0
   have hno:¬(1≤a∧a≤13):=fun h=>HC.out.2.2.1.2 h rfl
   by_cases h1:1≤a
   ·have t1:decide ((1:Int)≤a)=true:=by simpa using h1
    have t2:decide (a≤(13:Int))=false:=by simp;omega
    clear h1 hno
    go_enter Tryz.func4,Tryz.ntmps4
    go_wp2_with (first
      | (go_at_call 9
         refine(awake24_c _).mono ?_
         rintro e w1 ⟨rfl,hb1⟩
         have H1:=Lib.hid hb1
         clear hb1)
      | (go_at_call 11
         refine(HC.out.1 _ H1.out).mono ?_
         rintro e w2 ⟨rfl,rfl⟩))
    go_ret
    exact⟨rfl,H1.out⟩
   ·have t1:decide ((1:Int)≤a)=false:=by simp;omega
    clear h1 hno
    go_enter Tryz.func4,Tryz.ntmps4
    go_wp2_with (first
      | (go_at_call 9
         refine(awake24_c _).mono ?_
         rintro e w1 ⟨rfl,hb1⟩
         have H1:=Lib.hid hb1
         clear hb1)
      | (go_at_call 11
         refine(HC.out.1 _ H1.out).mono ?_
         rintro e w2 ⟨rfl,rfl⟩))
    go_ret
    exact⟨rfl,H1.out⟩
  ·have hyes:=HC.out.2.2.1.1 h0
   have t1:decide ((1:Int)≤a)=true:=by simpa using hyes.1
   have t2:decide (a≤(13:Int))=true:=by simpa using hyes.2
   by_cases hab:a=b
   ·have t3:(a==b)=true:=by simpa using hab
    have hE:S.isEmpty=false:=by cases S;exact absurd rfl h0;rfl
    clear h0 hyes hab
    go_enter Tryz.func4,Tryz.ntmps4
    go_wp2_with (first
      | (go_at_call 9
         refine(awake24_c _).mono ?_
         rintro e w1 ⟨rfl,hb1⟩
         have H1:=Lib.hid hb1
         clear hb1)
      | (go_at_call 11
         refine(HC.out.1 _ H1.out).mono ?_
         rintro e w2 ⟨rfl,rfl⟩))
    go_ret
    exact⟨rfl,H1.out⟩
   ·have t3:(a==b)=false:=beq_false_of_ne hab
    have hST:S≠T:=fun e=>hab (HC.out.2.2.2 h0 e)
    have hE:S.isEmpty=false:=by cases S;exact absurd rfl h0;rfl
    clear h0 hyes hab
    go_enter Tryz.func4,Tryz.ntmps4
    go_wp2_with (first
      | (go_at_call 9
         refine(awake24_c _).mono ?_
         rintro e w1 ⟨rfl,hb1⟩
         have H1:=Lib.hid hb1
         clear hb1)
      | (go_at_call 11
         first
           | (with_reducible refine(HC.out.1 _ H1.out).mono ?_)
           | (with_reducible refine(HC.out.2.1 _ H1.out).mono ?_)
         rintro e w2 ⟨rfl,rfl⟩))
    go_ret
    exact⟨by simp[hST],H1.out⟩
end Go.Proofs.YtgdifhhioahakaaGreatDoor
