/- slices.Collect of any iterator of ints. -/
import Derived.Test.YtgdifhhioahakaaGreatDoorYc24
import Derived.Test.YtgdifhhioahakaaGreatDoorBv8
import Derived.Test.YtgdifhhioahakaaGreatDoorQc13
namespace Go.Proofs.YtgdifhhioahakaaGreatDoor
open Go.RowKit
set_option linter.unusedVariables false
set_option linter.unusedSimpArgs false
set_option maxRecDepth 100000
attribute [local go_sem] Oper.semAt_some
def ics (l:List Nat):List Value:=l.map fun (i:Nat)=>Value.int .i64 (i:Int)
theorem ics_snoc (l:List Nat) (x:Nat):ics (l++[x])=ics l++ics [x]:=by simp[ics]
theorem one_ic (l:List Nat):∀u∈ics l,u.oneCell'=true:=by
  intro u hu
  obtain⟨x,_,rfl⟩:=List.mem_map.1 hu
  rfl
theorem Tryz.infoInt29:(Tryz.prog.info? 3).map (fun i=>(i.zero,i.size,i.bytes))=some (some (.int .i64 0),1,8):=by kernel_rfl
def IterI (gf:Nat) (lb:Array Value) (N:List Nat) (w:World):Prop:=
  (∀args w,(callFunc gf args).run Tryz.prog w=.ok (.enter gf args) w)∧∀W0,Below w.heap.size w W0→SeqX Tryz.prog gf lb encC (KeepX w.heap.size fun _=>False) (fun xs=>xs=N) (fun _=>True) N W0
set_option maxHeartbeats 4000000 in
theorem appendI29 (gf:Nat) (lb:Array Value) (N:List Nat) (w:World) (hN:N.length≤100000) (hI:IterI gf lb N w) :
    Calls Tryz.prog 38 #[.slice none 0 0,.func (.func gf) #[] lb] w fun e w'=>∃v,e=.returned v∧w'.ownsRow w.heap.size 3 1 v N.length (ics N)∧Below w.heap.size w w':=by
  obtain⟨i0,hi,hz0,hz1,hz2⟩:=info_parts Tryz.infoInt29
  refine(callsIn_wide (n:=5)).1 ?_
  refine callsIn_of_wp_marks Tryz.func38 rfl trivial ?_ rfl
  simp only[Tryz.ntmps38,List.size_toArray,List.length_cons,List.length_nil,Nat.reduceAdd,Nat.reduceSub,Array.replicate_succ,Array.replicate_zero,List.push_toArray,List.append_toArray,List.nil_append,List.cons_append]
  gi_wp2_with fail
  obtain⟨W0,hW0⟩:∃W0,w.alloc (.cells #[.slice none 0 0] 37)=W0:=⟨_,rfl⟩
  have bO:Boxed W0 w.heap.size 37 (.slice none 0 0):=by rw[←hW0];exact Boxed.new w _ _
  have hs0:W0.heap.size=w.heap.size+1:=by rw[←hW0];simp
  have hb0:Below w.heap.size w W0:=by rw[←hW0];exact(Below.refl _ w).alloc (Nat.le_refl _) _
  rw[hW0]
  clear hW0
  refine rangeFunc_x (by omega) (gf:=gf) (lb:=lb) rfl hI.1 (hI.2 W0 hb0) (fun h k=>h.trans k) (fun W l o o' hl h1 h2 h3=>keepX_put W l o o' (by omega) h1 h2 h3) (Below.refl _ _) (fun _=>rfl)
    (fun X pre W=>Cb w.heap.size W0.heap.size w.heap.size 37 3 1 w pre.length (ics pre) X W)
    (fun _ _ _ _=>False)
    (Cb.fits (n:=fun pre:List Nat=>pre.length) (xs:=fun pre=>ics pre) (by omega)) (fun _ _ _ _ _ h _=>h) (fun X pre W W' row h hg hr=>cb_own _ _ _ _ _ _ _ _ _ _ X (by omega) (Nat.le_refl _) () W W' row h hg hr) (fun _ _ _ _ _ _ h _ _=>h)
    ⟨⟨_,bO,World.ownsRow_nil _ _ _ _,fun h=>h,fun _ _ h=>h⟩,hb0,Nat.le_refl _,fun _ h=>h.elim⟩
    (fun x a' W=>a'={tmps:=#[.slice none 0 0,.func (.func gf) #[] lb,.pointer (some ⟨w.heap.size,0,none⟩),undef,.slice none 0 0,.int .i64 (x:Int),.func (.func gf) #[] lb,.int .i64 (x:Int),undef,undef,undef,undef,undef],defers:=[]})
    (fun x a'=>fun _ _ _ _ h _ _=>h) ?assign ?body ?done ?stop
  case assign=>
    intro l' X pre x W K hI hpx hK
    gi_wp2
    exact hK _ _ (keepsFrom_below (Below.refl _ _)) (KeepX.refl _ _ _) (fun k hk=>rfl) hI rfl
  case body=>
    rintro l' X pre x a' W hl1 hl2 ⟨⟨v,hv,hrow,hnx⟩,hB,hS,hxb⟩ rfl hpx
    have hlen:pre.length+1≤100000:=by have:=hpx.length_le;simp at this;omega
    have hc:=hv.cell
    have hf:=hv.frozen
    have hbxl:=Boxed.lt hv
    gi_wp2_with (
      (gi_at_builtin
       have hrd:=rd_new W (ics [x]) 3 1 1 rfl (by omega)
       refine wpListIn_append_rd _ rfl (.tmp 8) (.tmp 10) 37 rfl W0.heap.size 3 i0 _ 1 8 Tryz.underlying37 hi hz0 hz1 hz2 rfl (by decide) v pre.length (ics pre) rfl (hrow.alloc _) (.slice (some ⟨W.heap.size,0,none⟩) 1 1) 1 (W.heap.size+1) (ics [x]) rfl hrd (one_ic _) (by unfold maxLen;omega) (by omega) (by rw[World.size_alloc];omega) ?_
       intro v6 w6 hown6 hg6 hv6
       have k6:Bk w6 w.heap.size 37 #[v]:=Bk.overrow (w:=W.alloc _) (Bk.alloc hv _) (hrow.alloc _) hg6 (by decide)
       have c6:=Boxed.cell k6
       have f6:=Boxed.frozen k6
       obtain⟨A6,n6,c6',rfl⟩:=own_form' hown6
       have H6:=Lib.hid (And.intro hown6 (And.intro hg6 hv6))
       clear hown6 hg6 hv6 k6 hrd))
    obtain⟨h6,hg6,hv6⟩:=H6.out
    rw[←ics_snoc,show pre.length+1=(pre++[x]).length by simp] at h6
    exact Cb.app (M:=W0.heap.size) (n₀:=w.heap.size) (Xc:=fun _=>False) hv hrow hnx hB hS hxb (by decide) (Nat.le_refl _) (by omega) (Nat.le_refl _) (Nat.le_refl _) ((Below.refl _ _).alloc (Nat.le_refl _) _) hg6 h6 hv6
  case done=>
    rintro D X ys W hD rfl ⟨⟨v,hv,hrow,hnx⟩,hB,hS,hxb⟩ hK
    have hc:=hv.cell
    have hbk:=belowK_b (w:=w) (Nat.le_refl _) W D (.deferred (some [])) (.deferred none) (by omega) hK rfl rfl
    have hrow3:=hrow.kept (grownBy_putObj' W D (.deferred none)) (.inr (fun e=>by have:=own_not_cells hrow e hK;cases this))
    have HD:=Lib.hid (And.intro hB (And.intro hbk hrow3))
    have HK2:=Lib.hid hK
    clear hB hbk hrow hrow3 hv hK hnx hxb
    gi_wp2
    refine⟨by simp,.inl ⟨_,_,rfl,run_takeDeferred HK2.out,?_⟩⟩
    exact⟨v,by simp[results,Tryz.results38,go_sem],⟨_,rfl,own_base HD.out.2.2 (by omega),HD.out.1.trans HD.out.2.1⟩⟩
  case stop=>
    intro D c X pre W _ _ h _
    exact h.elim
theorem collectI29 (gf:Nat) (lb:Array Value) (N:List Nat) (w:World) (hN:N.length≤100000) (hI:IterI gf lb N w) :
    Calls Tryz.prog 21 #[.func (.func gf) #[] lb] w fun e w'=>∃v,e=.returned v∧w'.ownsRow w.heap.size 3 1 v N.length (ics N)∧Below w.heap.size w w':=by
  have H:=Lib.hid (appendI29 gf lb N w hN hI)
  clear hI
  go_enter Tryz.func21,Tryz.ntmps21
  go_wp2_with (
    (go_at_call 38
     refine H.out.mono ?_
     rintro e w2 ⟨v,rfl,h1,h2⟩
     have H2:=Lib.hid (And.intro h1 h2)
     clear h1 h2))
  go_ret
  exact⟨_,rfl,H2.out⟩
end Go.Proofs.YtgdifhhioahakaaGreatDoor
