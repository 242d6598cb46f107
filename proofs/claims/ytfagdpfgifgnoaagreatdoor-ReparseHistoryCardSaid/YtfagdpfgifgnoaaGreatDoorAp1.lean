/- Package relex: Apply, up to its loop. -/
import Derived.Test.YtfagdpfgifgnoaaGreatDoorTo10
import Derived.Test.YtfagdpfgifgnoaaGreatDoorNw10
import Derived.Test.YtfagdpfgifgnoaaGreatDoorEd10
import Derived.Deep.DeepCutAuto
import Derived.Deep.CutBlock
import Derived.Deep.RegionHeld3
set_option linter.unusedVariables false
set_option linter.unusedSimpArgs false
set_option maxRecDepth 100000
set_option maxHeartbeats 8000000
namespace Go.Proofs.YtfagdpfgifgnoaaGreatDoor
open Go.RowKit
theorem Fq {P:Program} {c:Code} {Q:Exit→Act→World→Prop} {a:Act} {w:World} {cs1 cs2 cs3:Array Value} {t1 t2 t3:TypeId}
    (h:∀W,Below w.heap.size w W→Bk W w.heap.size t1 cs1→Bk W (w.heap.size+1) t2 cs2→Bk W (w.heap.size+1+1) t3 cs3→W.heap.size=w.heap.size+3→c.wp P Q a W):c.wp P Q a (((w.alloc (.cells cs1 t1)).alloc (.cells cs2 t2)).alloc (.cells cs3 t3)):=
  h _ ((((Below.refl _ _).alloc (Nat.le_refl _) _).alloc (by simp) _).alloc (by simp<;>omega) _) (((Bk.new _ _ _).alloc _).alloc _) ((aW w _ _ _ _).alloc _) (by simpa using Bk.new ((w.alloc (.cells cs1 t1)).alloc (.cells cs2 t2)) t3 cs3) (by simp)
theorem ws (g:Nat) (l d i:List UInt8) (a:Int) (X:Lx) (xs:List PV) (lv pv:Value) (w:World) (hD:jF w g l X xs lv pv) (hl:l.length≤900) (hd:d.length≤900) (hi:i.length≤900) (ha : -9223372036854775808≤a∧a≤9223372036854775807) (hok:lE l d a=false) :
    iE 45 #[.pointer (some ⟨g,0,none⟩),zy a d i] w (.tuple #[.agg #[.int .i64 0,.int .i64 0],.int .i64 1]):=by
  have hg:=hD.bk.lt;have y0:w.cell? ⟨g,0,none⟩=some (.string ⟨l.toArray⟩):=by rw[hD.bk.cell];rfl
  have hc:∀W,iE 66 #[.string ⟨l.toArray⟩,zy a d i] W (.tuple #[.string ⟨#[]⟩,.int .i64 1]):=fun W=>by
    have:=Fz l d i a W (by omega) (by omega) (by omega) ha
    rw[hok] at this;exact this
  have HC:=Lib.hid hc;clear hc hD hok;refine(callsIn_wide (n:=5)).1 ?_;refine callsIn_of_wp_marks Tryz.func45 rfl trivial ?_ rfl;simp only[Tryz.ntmps45,List.size_toArray,List.length_cons,List.length_nil,Nat.reduceAdd,Nat.reduceSub,Array.replicate_succ,Array.replicate_zero,List.push_toArray,List.append_toArray,List.nil_append,List.cons_append];refine wpIn_wide.2 ?_;go_wp2;refine Fq fun W hbW hk0 hk1 hk2 hsW=>?_
  have p0:W.cell? ⟨w.heap.size,0,none⟩=some (.pointer (some ⟨g,0,none⟩)):=by rw[hk0.cell];rfl
  obtain⟨q0,q1,q2,_⟩:=hk1.three;have y1:W.cell? ⟨g,0,none⟩=some (.string ⟨l.toArray⟩):=(jG hbW).1 g 0 hg▸y0;have HW:=Lib.hid (And.intro hbW (And.intro hk2 hsW));clear hbW hk0 hk1 hk2 hsW y0;refine wp_scope_straight ?_;go_wp2_with fail
  go_region_held3 (fun w'=>w'.cell? ⟨w.heap.size,0,none⟩=some (.pointer (some ⟨g,0,none⟩))∧w'.cell? ⟨g,0,none⟩=some (.string ⟨l.toArray⟩)∧w'.cell? ⟨w.heap.size+1,0,none⟩=some (.int .i64 a)∧w'.cell? ⟨w.heap.size+1,1,none⟩=some (.string ⟨d.toArray⟩)∧w'.cell? ⟨w.heap.size+1,2,none⟩=some (.string ⟨i.toArray⟩))
   (first
    | with_reducible exact⟨p0,y1,q0,q1,q2⟩
    | exact⟨p0,y1,q0,q1,q2⟩)
   (
    (go_at_call 66;refine(HC.out _).mono ?_;rintro e w5 ⟨rfl,hb5⟩;have hb5:Below W.heap.size W w5:=(Below.refl _ W).drew.trans hb5;have hk5:=HW.out.2.1.below hb5 HW.out.2.1.lt;have k0:w5.cell? ⟨w.heap.size+1+1,0,none⟩=some (.int .i64 0):=by rw[hk5.cell];rfl
     have k1:w5.cell? ⟨w.heap.size+1+1,1,none⟩=some (.int .i64 0):=by rw[hk5.cell];rfl
     have k2:=hk5.frozen 0;have k3:=hk5.frozen 1;have p0:w5.cell? ⟨w.heap.size,0,none⟩=some (.pointer (some ⟨g,0,none⟩)):=p0▸(jG hb5).1 _ _ (by have:=HW.out.2.2;omega);have y1:w5.cell? ⟨g,0,none⟩=some (.string ⟨l.toArray⟩):=y1▸(jG hb5).1 _ _ (by have:=HW.out.2.2;omega);have q0:w5.cell? ⟨w.heap.size+1,0,none⟩=some (.int .i64 a):=q0▸(jG hb5).1 _ _ (by have:=HW.out.2.2;omega);have q1:w5.cell? ⟨w.heap.size+1,1,none⟩=some (.string ⟨d.toArray⟩):=q1▸(jG hb5).1 _ _ (by have:=HW.out.2.2;omega);have q2:w5.cell? ⟨w.heap.size+1,2,none⟩=some (.string ⟨i.toArray⟩):=q2▸(jG hb5).1 _ _ (by have:=HW.out.2.2;omega);have H5:=Lib.hid (And.intro hb5 hk5);clear hb5 hk5))
  all_goals go_wp2
  all_goals (
    have b5:Below w.heap.size w w5:=HW.out.1.trans (H5.out.1.mono HW.out.1.size);have b6:=(b5.setCell (p:=⟨w.heap.size+1+1,0,none⟩) (by show w.heap.size≤w.heap.size+1+1;omega) (.int .i64 0)).setCell (p:=⟨w.heap.size+1+1,1,none⟩) (by show w.heap.size≤w.heap.size+1+1;omega) (.int .i64 0);have k6:=(H5.out.2.set 0 (.int .i64 0)).set 1 (.int .i64 0);generalize World.setCell _ _ _=W6 at b6 k6 ⊢;have c0:W6.cell? ⟨w.heap.size+1+1,0,none⟩=some (.int .i64 0):=by rw[k6.cell];rfl
    have c1:W6.cell? ⟨w.heap.size+1+1,1,none⟩=some (.int .i64 0):=by rw[k6.cell];rfl
    exact⟨.tuple #[.agg #[.int .i64 0,.int .i64 0],.int .i64 1],by simp[results,Tryz.results45,go_sem,c0,c1],rfl,b6⟩)
end Go.Proofs.YtfagdpfgifgnoaaGreatDoor
