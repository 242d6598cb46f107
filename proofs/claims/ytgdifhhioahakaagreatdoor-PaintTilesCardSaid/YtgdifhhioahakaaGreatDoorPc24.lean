/- Paint: painter.cover. -/
import Derived.Test.YtgdifhhioahakaaGreatDoorCv24
namespace Go.Proofs.YtgdifhhioahakaaGreatDoor
open Go.RowKit
set_option linter.unusedVariables false
set_option linter.unusedSimpArgs false
set_option maxRecDepth 100000
theorem grown_bel {W W':World} (h:Below W.heap.size W W'):W.grownBy W' none:=⟨h.1,h.2,h.3,h.size,fun k hk _=>h.block k hk⟩
theorem gset1 {P:Program} {c:Code} {Q:Exit→Act→World→Prop} {a:Act} {w:World} {g:Nat} {t e t1:TypeId} {x y z v V:Value} {cs:Array Value} {sz n:Nat} {xs:List Value} (hk:Bk w g t #[x,y,z]) (hR:Rt w e sz V n xs) (he:e≠t)
    (h:∀W,Bk W g t #[x,v,z]→Rt W e sz V n xs→Below g w W→W.heap.size=w.heap.size+1→(∀j,j<w.heap.size→j≠g→W.heap[j]? = w.heap[j]?)→c.wp P Q a W):c.wp P Q a ((w.setCell ⟨g,1,none⟩ v).alloc (.cells cs t1)):=by
  have h1:Bk (w.setCell ⟨g,1,none⟩ v) g t #[x,v,z]:=by simpa using hk.set 1 v
  have hg:=hk.lt
  have hs:(w.setCell ⟨g,1,none⟩ v).heap.size=w.heap.size:=by simp
  have h2:Rt (w.setCell ⟨g,1,none⟩ v) e sz V n xs:=hR.keep (grown_set (grown_refl w (some g)) 1 v) (fun k hk'=>by cases hk';exact⟨_,_,_,hk,he⟩)
  refine h _ (h1.alloc _) (h2.keep (grown_bel ((Below.refl _ _).alloc (Nat.le_refl _) _)) (fun k hk=>by cases hk)) (((Below.refl g w).setCell (p:=⟨g,1,none⟩) (Nat.le_refl _) v).alloc (by rw[hs];omega) _) (by simp) (fun j hj hne=>?_)
  exact(Below.heap_alloc _ _ j (by rw[hs];exact hj)).trans (Below.heap_setCell w ⟨g,1,none⟩ v j hne)
structure Pcv (w w':World) (g:Nat) (S M:Value) (k:Nat):Prop where
  bk:Bk w' g 67 #[S,.int .i64 (k:Int),M]
  be:Below g w w'
  sz:w.heap.size≤w'.heap.size
  eq:∀j,j<w.heap.size→j≠g→w'.heap[j]? = w.heap[j]?
theorem Pcv.drewN {w w':World} {g k:Nat} {S M:Value} (h:Pcv w w' g S M k) (n:Nat):Pcv w (w'.drewN n) g S M k:=⟨h.bk.drewN n,below_drewN' h.be n,h.sz,h.eq⟩
set_option maxHeartbeats 1000000 in
theorem pcover_no (S M:Value) (g kk:Nat) (z fr to_:Int) (op:Bool) (w:World) (hz:z=1∨z=3∨z=7) (hb:Bk w g 67 #[S,.int .i64 (kk:Int),M]) :
    Calls Tryz.prog 30 #[.pointer (some ⟨g,0,none⟩),.agg #[.int .i64 z,.int .i64 fr,.int .i64 to_,.bool op]] w fun e w'=>e=.returned (.int .i64 0)∧Pcv w w' g S M kk:=by
  have hg:=hb.lt
  have hp:Pcv w (w.alloc (.cells #[.int .i64 z,.int .i64 fr,.int .i64 to_,.bool op] 69)) g S M kk:=⟨hb.alloc _,(Below.refl g w).alloc (Nat.le_of_lt hg) _,by simp,fun j hj _=>Below.heap_alloc w _ j hj⟩
  have HP:=Lib.hid hp
  clear hp hb
  rcases hz with rfl|rfl|rfl
  all_goals (
    go_enter Tryz.func30,Tryz.ntmps30
    go_wp2_with fail
    go_ret
    exact⟨rfl,HP.out⟩)
set_option maxHeartbeats 1000000 in
theorem pcover_yes (L:List Nd) (A:Option Addr) (M:Value) (c g kk:Nat) (z fr to_:Int) (op:Bool) (w:World) (hz:z=2∨z=4∨z=5∨z=6) (hb:Bk w g 67 #[.slice A L.length c,.int .i64 (kk:Int),M]) (hL:L.length≤100000) (hkk:kk≤100000) (hR:Rt w 76 4 (.slice A L.length c) L.length (ndcs L)) :
    Calls Tryz.prog 30 #[.pointer (some ⟨g,0,none⟩),.agg #[.int .i64 z,.int .i64 fr,.int .i64 to_,.bool op]] w fun e w'=>e=.returned (.int .i64 (coverF L kk L.length))∧Pcv w w' g (.slice A L.length c) M (kk+1):=by
  have hg:=hb.lt
  obtain⟨q0,q1,q2,q3,q4,q5⟩:=(hb.alloc (.cells #[.int .i64 z,.int .i64 fr,.int .i64 to_,.bool op] 69)).three
  have hc:∀W,Rt W 76 4 (.slice A L.length c) L.length (ndcs L)→Calls Tryz.prog 53 #[.slice A L.length c,.int .i64 (kk:Int)] W fun e w'=>e=.returned (.int .i64 (coverF L kk L.length))∧W=w':=fun W h=>cover_m L A c L.length kk (kk:Int) W hL rfl rfl h.rd
  have HC:=Lib.hid (And.intro hc (And.intro hb hR))
  clear hc hb hR
  have v1:IntKind.i64.wrap ((kk:Int)+1)=(kk:Int)+1:=IntWalk.i64_in _ (by omega)
  have v2:IntKind.i64.wrap (kk:Int)=(kk:Int):=IntWalk.i64_in _ (by omega)
  have v3:((kk+1:Nat):Int)=(kk:Int)+1:=by omega
  have H3:=Lib.hid v3
  clear v3
  rcases hz with rfl|rfl|rfl|rfl
  all_goals (
    go_enter Tryz.func30,Tryz.ntmps30
    go_upto_region 7 with fail
    refine gset1 HC.out.2.1 HC.out.2.2 (by decide) fun W hk hRW hbl hsz hj=>?_
    obtain⟨r0,r1,r2,_,_,_⟩:=hk.three
    have hp:Pcv w W g (.slice A L.length c) M (kk+1):=⟨by rw[H3.out];exact hk,hbl,by omega,hj⟩
    have HD:=Lib.hid (And.intro hp hRW)
    clear hp hk hRW hbl hsz hj q0 q1 q2 q3 q4 q5 v1
    go_wp2_with fail
    go_quiet ((go_at_call 53;exact Calls.quiet_of_same ((HC.out.1 (W.drewN _) HD.out.2).mono fun e w2 h=>⟨h.1,h.2.symm⟩)))
    all_goals go_wp2
    all_goals (
      go_ret
      exact⟨rfl,HD.out.1.drewN _⟩))
end Go.Proofs.YtgdifhhioahakaaGreatDoor
