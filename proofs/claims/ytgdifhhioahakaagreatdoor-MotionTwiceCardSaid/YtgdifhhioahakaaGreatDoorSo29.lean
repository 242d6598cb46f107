/- Motion: Stops: the row of all stops. -/
import Derived.Test.YtgdifhhioahakaaGreatDoorBe29
import Derived.Test.YtgdifhhioahakaaGreatDoorKm29
import Derived.Test.YtgdifhhioahakaaGreatDoorMs29
namespace Go.Proofs.YtgdifhhioahakaaGreatDoor
open Go.RowKit
set_option linter.unusedVariables false
set_option linter.unusedSimpArgs false
set_option maxRecDepth 100000
attribute [local go_sem] Oper.semAt_some
def btwI (l:List UInt8) (k:Int):List Int:=(btwB l k).map fun (n:Nat)=>(n:Int)
theorem ics_ivs (l:List Nat):ics l=ivs (l.map fun (n:Nat)=>(n:Int)):=by simp[ics,ivs]
theorem ivs_app (a b:List Int):ivs (a++b)=ivs a++ivs b:=by simp[ivs]
theorem one_iv (l:List Int):∀u∈ivs l,u.oneCell'=true:=by
  intro u hu
  obtain⟨x,_,rfl⟩:=List.mem_map.1 hu
  rfl
theorem cmpL_self:∀{l:List Int},l.Pairwise (· < ·)→cmpL l=l
  | [],_=>rfl
  | a::l,h=>by
    rw[List.pairwise_cons] at h
    unfold cmpL
    rw[cmpL_self h.2]
    cases l with
    | nil=>rfl
    | cons b s=>
      have:=h.1 b (by simp)
      simp only
      rw[if_neg (by omega)]
def RiseOr (R:List Int):Prop:=(R.Pairwise (· < ·)∧2≤R.length)∨∃a r,R=a::a::r∧(a::r).Pairwise (· < ·)
theorem rise_app {B:List Int} {n:Int} (h:Btw B n):(B++[n]).Pairwise (· < ·):=by
  rw[List.pairwise_append]
  refine⟨h.rise,by simp,fun x hx y hy=>?_⟩
  rw[List.mem_singleton.1 hy]
  exact(h.rng x hx).2
theorem stops_form {B:List Int} {n:Int} (h:Btw B n) (hn:0≤n):RiseOr (0::B++[n]):=by
  have h1:=rise_app h
  have h2:∀x∈B++[n],0≤x:=fun x hx=>by
    rcases List.mem_append.1 hx with h3|h3
    ·exact(h.rng x h3).1
    ·rw[List.mem_singleton.1 h3];exact hn
  rw[List.cons_append]
  cases e:B++[n] with
  | nil=>simp at e
  | cons y s=>
    rw[e] at h1 h2
    by_cases h0:y=0
    ·subst h0
     exact .inr ⟨0,s,rfl,h1⟩
    ·refine .inl ⟨?_,by simp⟩
     rw[List.pairwise_cons]
     refine⟨fun x hx=>?_,h1⟩
     have:=h2 y (by simp)
     rcases List.mem_cons.1 hx with rfl|hx
     ·omega
     ·have:=(List.pairwise_cons.1 h1).1 x hx;omega
theorem compact_m (R:List Int) (hR:RiseOr R) (B:Nat) (v:Value) (w:World) (hB:B≤w.heap.size) (ho:w.ownsRow B 3 1 v R.length (ivs R)) :
    Calls Tryz.prog 23 #[v] w fun e w'=>∃v',e=.returned v'∧w'.ownsRow B 3 1 v' (cmpL R).length (ivs (cmpL R))∧Below B w w':=by
  obtain⟨A,n,c,rfl⟩:=own_form' ho
  obtain rfl:=own_len ho
  rcases hR with ⟨h1,h2⟩|⟨a,r,rfl,h1⟩
  ·obtain⟨g,rfl⟩:=own_at ho (by omega)
   rw[cmpL_self h1]
   refine(compact_rise R B g c R.length w rfl h2 h1 ho).mono ?_
   rintro e w' ⟨rfl,m,rfl⟩
   exact⟨_,rfl,ho,below_drewN' (Below.refl _ _) _⟩
  ·obtain⟨g,rfl⟩:=own_at ho (by simp)
   have e:cmpL (a::a::r)=a::r:=by
     unfold cmpL
     rw[cmpL_self h1]
     simp
   rw[e]
   refine(compact_two a r B g c r.length w rfl h1 ho).mono ?_
   rintro e w' ⟨rfl,h2,h3⟩
   exact⟨_,rfl,h2,h3⟩
set_option maxHeartbeats 4000000 in
theorem Stops_m (l:List UInt8) (k:Int) (hok:CmdOk l) (hB:Btw (btwI l k) (l.length:Int)) (hn:(btwB l k).length≤50000) (hl:l.length≤900) (w:World) :
    Calls Tryz.prog 16 #[.string ⟨l.toArray⟩,.int .i64 k] w fun e w'=>∃v,e=.returned v∧w'.ownsRow w.heap.size 3 1 v (stopsL (btwI l k) (l.length:Int)).length (ivs (stopsL (btwI l k) (l.length:Int)))∧Below w.heap.size w w':=by
  obtain⟨i0,hi,hz0,hz1,hz2⟩:=info_parts Tryz.infoInt29
  have c1:=fun W=>between_m l hok hl k W
  have c2:=fun gf lb W2 hI=>collectI29 gf lb (btwB l k) W2 (by omega) hI
  have c3:=fun (v:Value) W hB' ho=>compact_m _ (stops_form hB (by omega)) w.heap.size v W hB' ho
  have e1:(btwI l k).length=(btwB l k).length:=by unfold btwI;simp
  unfold stopsL
  rw[ics_ivs] at c2
  rw[show (btwB l k).map (fun (n:Nat)=>(n:Int))=btwI l k from rfl] at c2
  rw[←e1] at c2 hn
  obtain⟨I,hI⟩:∃I,I=btwI l k:=⟨_,rfl⟩
  rw[←hI] at c2 c3 hn
  rw[←hI]
  have e2:(0::I++[(l.length:Int)]).length=1+I.length+1:=by simp;omega
  have e3:ivs (0::I++[(l.length:Int)])=([.int .i64 0]++ivs I)++ivs [(l.length:Int)]:=by simp[ivs]
  rw[e2,e3] at c3
  have H:=Lib.hid (And.intro c1 (And.intro c2 c3))
  clear c1 c2 c3 hI hB hok e1 e2 e3
  go_enter Tryz.func16,Tryz.ntmps16
  have hb0:Below w.heap.size w (w.alloc (.cells #[.int .i64 0] 3)):=(Below.refl _ w).alloc (Nat.le_refl _) _
  have ho0:(w.alloc (.cells #[.int .i64 0] 3)).ownsRow w.heap.size 3 1 (.slice (some ⟨w.heap.size,0,none⟩) 1 1) 1 [.int .i64 0]:=World.ownsRow_lit w #[.int .i64 0] 1 (Nat.le_refl _) (by unfold maxLen;omega) rfl
  have HW:=Lib.hid (And.intro hb0 ho0)
  clear hb0 ho0
  go_wp2_with (first
    | (go_at_call 22
       refine(H.out.1 _).mono ?_
       rintro e w2 ⟨gf,lb,rfl,h1,h2⟩
       have H1:=Lib.hid (And.intro h1 h2)
       clear h1 h2)
    | (go_at_call 21
       refine(H.out.2.1 _ _ _ H1.out.1).mono ?_
       rintro e w3 ⟨v3,rfl,h1,h2⟩
       obtain⟨A3,n3,c3,rfl⟩:=own_form' h1
       obtain rfl:=own_len h1
       have hsz:=H1.out.2.size
       have hb3:=H1.out.2.trans (h2.mono hsz)
       have hr3:=Rd.of_own h1
       have ho3:=own_below HW.out.2 hb3
       have hsz3:w.heap.size+1≤w3.heap.size:=by have:=hb3.size;rw[World.size_alloc] at this;exact this
       have H3:=Lib.hid (And.intro ho3 (And.intro hr3 (HW.out.1.trans (hb3.mono (by rw[World.size_alloc];omega)))))
       clear h1 h2 hb3 hr3 ho3)
    | (at_builtin
       refine wpList_append_rd rfl (.tmp 6) (.tmp 10) 37 rfl w.heap.size 3 i0 _ 1 8 Tryz.underlying37 hi hz0 hz1 hz2 rfl (by decide) (.slice (some ⟨w.heap.size,0,none⟩) 1 1) 1 [.int .i64 0] rfl H3.out.1 (.slice A3 I.length c3) I.length w3.heap.size (ivs I) rfl H3.out.2.1 (one_iv I) (by unfold maxLen;omega) (by omega) (by omega) ?_
       intro v4 w4 hown4 hg4 hv4
       obtain⟨A4,n4,c4,rfl⟩:=own_form' hown4
       obtain rfl:=own_len hown4
       have hb4:Below w.heap.size w w4:=H3.out.2.2.grown hg4 (by omega) (by intro k hk;simp[Value.ownBlock] at hk;omega)
       have hsz4:=hb4.size
       have H4:=Lib.hid (And.intro hown4 hb4)
       clear hown4 hg4 hv4 hb4)
    | (at_builtin
       refine wpList_append_rd rfl (.tmp 12) (.tmp 15) 37 rfl w.heap.size 3 i0 _ 1 8 Tryz.underlying37 hi hz0 hz1 hz2 rfl (by decide) (.slice A4 (1+I.length) c4) (1+I.length) ([.int .i64 0]++ivs I) rfl (H4.out.1.alloc _) (.slice (some ⟨w4.heap.size,0,none⟩) 1 1) 1 (w4.heap.size+1) (ivs [(l.length:Int)]) rfl (rd_new w4 (ivs [(l.length:Int)]) 3 1 1 rfl (by omega)) (one_iv _) (by unfold maxLen;omega) (by omega) (by rw[World.size_alloc];omega) ?_
       intro v5 w5 hown5 hg5 hv5
       have hb5:Below w.heap.size w w5:=(H4.out.2.alloc hsz4 _).grown hg5 (by rw[World.size_alloc];omega) (fun j hj=>(H4.out.1.lt j hj).1)
       have hsz5:=hb5.size
       have H5:=Lib.hid (And.intro hown5 hb5)
       clear hown5 hg5 hv5 hb5)
    | (go_at_call 23
       refine(H.out.2.2 _ _ hsz5 H5.out.1).mono ?_
       rintro e w6 ⟨v6,rfl,h1,h2⟩
       have H6:=Lib.hid (And.intro h1 h2)
       clear h1 h2))
  go_ret
  exact⟨_,rfl,H6.out.1,H5.out.2.trans H6.out.2⟩
end Go.Proofs.YtgdifhhioahakaaGreatDoor
