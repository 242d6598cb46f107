/- Package relex: Apply, up to its loop. -/
import Derived.Test.YtclllfmbldeneaaGreatDoorTo10
import Derived.Test.YtclllfmbldeneaaGreatDoorNw10
import Derived.Test.YtclllfmbldeneaaGreatDoorEd10
import Derived.Deep.DeepCutAuto
import Derived.Deep.CutBlock
import Derived.Deep.RegionHeld3
namespace Go.Proofs.YtclllfmbldeneaaGreatDoor
open Go.RowKit
set_option linter.unusedVariables false
set_option linter.unusedSimpArgs false
set_option maxRecDepth 100000
theorem gen3 {P:Program} {c:Code} {Q:Exit→Act→World→Prop} {a:Act} {w:World} {cs1 cs2 cs3:Array Value} {t1 t2 t3:TypeId}
    (h:∀W,Below w.heap.size w W→Bk W w.heap.size t1 cs1→Bk W (w.heap.size+1) t2 cs2→Bk W (w.heap.size+1+1) t3 cs3→W.heap.size=w.heap.size+3→c.wp P Q a W):c.wp P Q a (((w.alloc (.cells cs1 t1)).alloc (.cells cs2 t2)).alloc (.cells cs3 t3)):=
  h _ ((((Below.refl _ _).alloc (Nat.le_refl _) _).alloc (by simp) _).alloc (by simp<;>omega) _) (((Bk.new _ _ _).alloc _).alloc _) ((bk_second w _ _ _ _).alloc _) (by simpa using Bk.new ((w.alloc (.cells cs1 t1)).alloc (.cells cs2 t2)) t3 cs3) (by simp)
set_option maxHeartbeats 4000000 in
theorem apply_bad (g:Nat) (l d i:List UInt8) (a:Int) (X:Lx) (xs:List PV) (lv pv:Value) (w:World) (hD:DocR w g l X xs lv pv) (hl:l.length≤900) (hd:d.length≤900) (hi:i.length≤900) (ha : -9223372036854775808≤a∧a≤9223372036854775807) (hok:okE l d a=false) :
    Calls Tryz.prog 13 #[.pointer (some ⟨g,0,none⟩),edv a d i] w fun e w'=>e=.returned (.tuple #[.agg #[.int .i64 0,.int .i64 0],.int .i64 1])∧Below w.heap.size w w':=by
  have hg:=hD.bk.lt
  have y0:w.cell? ⟨g,0,none⟩=some (.string ⟨l.toArray⟩):=by rw[hD.bk.cell];rfl
  have hc:∀W,Calls Tryz.prog 29 #[.string ⟨l.toArray⟩,edv a d i] W fun e w'=>e=.returned (.tuple #[.string ⟨#[]⟩,.int .i64 1])∧Below W.heap.size W w':=fun W=>by
    have:=do_m l d i a W (by omega) (by omega) (by omega) ha
    rw[hok] at this
    exact this
  have HC:=Lib.hid hc
  clear hc hD hok
  refine(callsIn_wide (n:=5)).1 ?_
  refine callsIn_of_wp_marks Tryz.func13 rfl trivial ?_ rfl
  simp only[Tryz.ntmps13,List.size_toArray,List.length_cons,List.length_nil,Nat.reduceAdd,Nat.reduceSub,Array.replicate_succ,Array.replicate_zero,List.push_toArray,List.append_toArray,List.nil_append,List.cons_append]
  refine wpIn_wide.2 ?_
  go_wp2
  refine gen3 fun W hbW hk0 hk1 hk2 hsW=>?_
  have p0:W.cell? ⟨w.heap.size,0,none⟩=some (.pointer (some ⟨g,0,none⟩)):=by rw[hk0.cell];rfl
  obtain⟨q0,q1,q2,_⟩:=hk1.three
  have y1:W.cell? ⟨g,0,none⟩=some (.string ⟨l.toArray⟩):=(bcell hbW).1 g 0 hg▸y0
  have HW:=Lib.hid (And.intro hbW (And.intro hk2 hsW))
  clear hbW hk0 hk1 hk2 hsW y0
  refine wp_scope_straight ?_
  go_wp2_with fail
  go_region_held3 (fun w'=>w'.cell? ⟨w.heap.size,0,none⟩=some (.pointer (some ⟨g,0,none⟩))∧w'.cell? ⟨g,0,none⟩=some (.string ⟨l.toArray⟩)∧w'.cell? ⟨w.heap.size+1,0,none⟩=some (.int .i64 a)∧w'.cell? ⟨w.heap.size+1,1,none⟩=some (.string ⟨d.toArray⟩)∧w'.cell? ⟨w.heap.size+1,2,none⟩=some (.string ⟨i.toArray⟩))
   (first
    | with_reducible exact⟨p0,y1,q0,q1,q2⟩
    | exact⟨p0,y1,q0,q1,q2⟩)
   (
    (go_at_call 29
     refine(HC.out _).mono ?_
     rintro e w5 ⟨rfl,hb5⟩
     have hb5:Below W.heap.size W w5:=(Below.refl _ W).drew.trans hb5
     have hk5:=HW.out.2.1.below hb5 HW.out.2.1.lt
     have k0:w5.cell? ⟨w.heap.size+1+1,0,none⟩=some (.int .i64 0):=by rw[hk5.cell];rfl
     have k1:w5.cell? ⟨w.heap.size+1+1,1,none⟩=some (.int .i64 0):=by rw[hk5.cell];rfl
     have k2:=hk5.frozen 0
     have k3:=hk5.frozen 1
     have p0:w5.cell? ⟨w.heap.size,0,none⟩=some (.pointer (some ⟨g,0,none⟩)):=p0▸(bcell hb5).1 _ _ (by have:=HW.out.2.2;omega)
     have y1:w5.cell? ⟨g,0,none⟩=some (.string ⟨l.toArray⟩):=y1▸(bcell hb5).1 _ _ (by have:=HW.out.2.2;omega)
     have q0:w5.cell? ⟨w.heap.size+1,0,none⟩=some (.int .i64 a):=q0▸(bcell hb5).1 _ _ (by have:=HW.out.2.2;omega)
     have q1:w5.cell? ⟨w.heap.size+1,1,none⟩=some (.string ⟨d.toArray⟩):=q1▸(bcell hb5).1 _ _ (by have:=HW.out.2.2;omega)
     have q2:w5.cell? ⟨w.heap.size+1,2,none⟩=some (.string ⟨i.toArray⟩):=q2▸(bcell hb5).1 _ _ (by have:=HW.out.2.2;omega)
     have H5:=Lib.hid (And.intro hb5 hk5)
     clear hb5 hk5))
  all_goals go_wp2
  all_goals (
    have b5:Below w.heap.size w w5:=HW.out.1.trans (H5.out.1.mono HW.out.1.size)
    have b6:=(b5.setCell (p:=⟨w.heap.size+1+1,0,none⟩) (by show w.heap.size≤w.heap.size+1+1;omega) (.int .i64 0)).setCell (p:=⟨w.heap.size+1+1,1,none⟩) (by show w.heap.size≤w.heap.size+1+1;omega) (.int .i64 0)
    have k6:=(H5.out.2.set 0 (.int .i64 0)).set 1 (.int .i64 0)
    generalize World.setCell _ _ _=W6 at b6 k6 ⊢
    have c0:W6.cell? ⟨w.heap.size+1+1,0,none⟩=some (.int .i64 0):=by rw[k6.cell];rfl
    have c1:W6.cell? ⟨w.heap.size+1+1,1,none⟩=some (.int .i64 0):=by rw[k6.cell];rfl
    exact⟨.tuple #[.agg #[.int .i64 0,.int .i64 0],.int .i64 1],by simp[results,Tryz.results13,go_sem,c0,c1],rfl,b6⟩)
end Go.Proofs.YtclllfmbldeneaaGreatDoor
