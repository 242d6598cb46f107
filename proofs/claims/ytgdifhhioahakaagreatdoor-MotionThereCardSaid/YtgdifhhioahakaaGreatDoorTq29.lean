/- reparse.Tops: the row. -/
import Derived.Test.YtgdifhhioahakaaGreatDoorTo29
namespace Go.Proofs.YtgdifhhioahakaaGreatDoor
open Go.RowKit
set_option linter.unusedVariables false
set_option linter.unusedSimpArgs false
set_option maxRecDepth 100000
attribute [local go_sem] Oper.semAt_some
theorem tops_p (A:Option Addr) (n c:Nat) (w:World) :
    Calls Tryz.prog 81 #[.slice A n c] w fun e w'=>e=.returned (.func (.func 104) #[] #[.pointer (some ⟨w.heap.size,0,none⟩)])∧w'=w.alloc (.cells #[.slice A n c] 59):=by
  go_enter Tryz.func81,Tryz.ntmps81
  go_wp2
  go_ret
  exact⟨rfl,rfl⟩
theorem tops_it (L:List Nd) (hL:L.length≤90000) (A:Option Addr) (c:Nat) (w:World) (hR:Rd w w.heap.size 4 (.slice A L.length c) L.length (ndcs L)) :
    Calls Tryz.prog 81 #[.slice A L.length c] w fun e w'=>∃gf lb,e=.returned (.func (.func gf) #[] lb)∧IterI gf lb (topK L L.length) w'∧Below w.heap.size w w':=by
  refine(tops_p _ _ _ w).mono ?_
  rintro e w' ⟨rfl,hw⟩
  have hs:w'.heap.size=w.heap.size+1:=by rw[hw];simp
  have k1:Bk w' w.heap.size 59 #[.slice A L.length c]:=by rw[hw];exact Bk.new w _ _
  have hbw:Below w.heap.size w w':=by rw[hw];exact(Below.refl _ w).alloc (Nat.le_refl _) _
  refine⟨_,_,rfl,⟨enters_of Tryz.func104 (by kernel_rfl) rfl,fun W0 hW0=>?_⟩,hbw⟩
  intro n l' J Jx W hW hF _ hY hJ
  have hb:=hW0.trans (hW.mono hW0.size)
  refine tops_in n l' _ c w'.heap.size L A J Jx hF hY hL W (k1.below hb k1.lt) (by omega) ?_ hb.size hJ
  exact((hR.keep hbw (Nat.le_refl _)).keep (hb.mono (by omega)) (Nat.le_refl _)).mono (by omega)
theorem Tops_m (L:List Nd) (hL:L.length≤90000) (A:Option Addr) (c:Nat) (w:World) (hR:Rd w w.heap.size 4 (.slice A L.length c) L.length (ndcs L)) :
    Calls Tryz.prog 64 #[.slice A L.length c] w fun e w'=>∃v,e=.returned v∧w'.ownsRow w.heap.size 3 1 v (topK L L.length).length (ics (topK L L.length))∧Below w.heap.size w w':=by
  have hn:=filt_len (topB L) L.length
  have H:=Lib.hid (And.intro (tops_it L hL A c w hR) (fun gf lb w2 hI=>collectI29 gf lb (topK L L.length) w2 (by unfold topK;omega) hI))
  clear hR hn
  go_enter Tryz.func64,Tryz.ntmps64
  go_wp2_with (first
    | (go_at_call 81
       refine H.out.1.mono ?_
       rintro e w2 ⟨gf,lb,rfl,h1,h2⟩
       have H1:=Lib.hid (And.intro h1 h2)
       clear h1 h2)
    | (go_at_call 21
       refine(H.out.2 _ _ _ H1.out.1).mono ?_
       rintro e w3 ⟨v,rfl,h1,h2⟩
       have H2:=Lib.hid (And.intro h1 h2)
       clear h1 h2))
  go_ret
  exact⟨_,rfl,own_base H2.out.1 H1.out.2.size,H1.out.2.trans (H2.out.2.mono H1.out.2.size)⟩
end Go.Proofs.YtgdifhhioahakaaGreatDoor
