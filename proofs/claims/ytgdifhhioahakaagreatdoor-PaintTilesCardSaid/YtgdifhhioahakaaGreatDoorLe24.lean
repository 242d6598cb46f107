/- Paint: Letters, and classes as a sequence. -/
import Derived.Test.YtgdifhhioahakaaGreatDoorCx24
import Derived.Laws.MakeOwn
namespace Go.Proofs.YtgdifhhioahakaaGreatDoor
open Go.RowKit
set_option linter.unusedVariables false
set_option linter.unusedSimpArgs false
set_option maxRecDepth 100000
attribute [local go_sem] Oper.semAt_some
theorem classes_seq (n₀ Bn:Nat) (Xc:Nat→Prop) (l:List UInt8) (hl:l.length≤900) (w:World) (hBn:Bk w Bn 9 #[.string ⟨l.toArray⟩]) (hB1:Bn<n₀∧¬Xc Bn) (wn:n₀≤w.heap.size) :
    SeqX Tryz.prog 25 #[.pointer (some ⟨Bn,0,none⟩)] encC (KeepX n₀ Xc) (fun xs=>xs=clsT l) (fun _=>True) (clsT l) w:=by
  intro n l' J Jx W hW hF _ hY hJ
  exact classes_in n l' Bn n₀ Xc l J Jx hF hY hl W (hBn.below hW hBn.lt) hB1 (Nat.le_trans wn hW.size) hJ
theorem classes_p (l:List UInt8) (w:World) :
    Calls Tryz.prog 19 #[.string ⟨l.toArray⟩] w fun e w'=>e=.returned (.func (.func 25) #[] #[.pointer (some ⟨w.heap.size,0,none⟩)])∧w'=w.alloc (.cells #[.string ⟨l.toArray⟩] 9):=by
  go_enter Tryz.func19,Tryz.ntmps19
  go_wp2
  go_ret
  exact⟨rfl,rfl⟩
structure Cd (B N bx:Nat) (bt e:TypeId) (sz:Nat) (Bw:World) (n:Nat) (xs:List Value) (X:Nat→Prop) (W:World):Prop where
  row:∃v,Boxed W bx bt v∧W.ownsRow B e sz v n xs∧(¬X bx∧∀k,v.ownBlock=some k→¬X k∧(k<bx∨N≤k))
  bl:Below B Bw W
  sz:N≤W.heap.size
  xb:∀k,X k→N≤k∧k<W.heap.size
theorem Cd.fits {α:Type} {B N bx sz:Nat} {bt e:TypeId} {Bw:World} {n:List α→Nat} {xs:List α→List Value} (hB:B≤N):Fits (fun (X:Nat→Prop) (pre:List α) W=>Cd B N bx bt e sz Bw (n pre) (xs pre) X W):=by
  rintro X s A C ⟨⟨v,h1,h2,h3,h4⟩,h5,h6,h7⟩ hx
  refine⟨⟨v,?_,?_,?_,?_⟩,⟨hx.os.trans h5.1,hx.tape.trans h5.2,hx.output.trans h5.3,Nat.le_trans h5.size hx.size,fun k hk=>?_⟩,Nat.le_trans h6 hx.size,fun k hk=>?_⟩
  ·exact(hx.block _ h1.lt h3).trans h1
  ·refine⟨h2.1,?_⟩
   rcases h2.2 with h|⟨g,cap,cur,he,hg,hh,r⟩
   ·exact .inl h
   ·exact .inr ⟨g,cap,cur,he,hg,(hx.block g (Array.getElem?_eq_some_iff.1 hh).1 (h4 g (by rw[he];rfl)).1).trans hh,r⟩
  ·rintro (hk|hk)
   ·exact h3 hk
   ·have:=h1.lt;omega
  ·rintro k hk
   refine⟨?_,(h4 k hk).2⟩
   rintro (hk2|hk2)
   ·exact(h4 k hk).1 hk2
   ·have:=(h2.lt k hk).2;omega
  ·exact(hx.block k (by have:=h5.size;omega) (fun h=>by have:=(h7 k h).1;omega)).trans (h5.block k hk)
  ·rcases hk with hk|hk
   ·have:=h7 k hk;have:=hx.size;omega
   ·have:=h5.size;omega
theorem cd_own (N bx sz:Nat) (bt e:TypeId) (n:Nat) (xs:List Value) (B M:Nat) (Bw:World) (X:Nat→Prop) (hB:B≤M) (hB2:B≤Bw.heap.size):OwnFrom M (fun (_:Unit) W=>Cd B N bx bt e sz Bw n xs X W):=by
  have h1:=OwnFrom.and (Own.from (holdsRow_own B bx bt e sz (fun _:Unit=>n) (fun _=>xs) (fun _ v=>¬X bx∧∀k,v.ownBlock=some k→¬X k∧(k<bx∨N≤k))) M) (OwnFrom.and (ownFrom_below (β:=Unit) (w₀:=Bw) (n₀:=B) hB2 hB) (ownFrom_size (β:=Unit) N M))
  rintro s W W' row ⟨a,b,c,d⟩ hg hr
  obtain⟨a2,b2,c2⟩:=h1 s W W' row ⟨a,b,c⟩ hg hr
  exact⟨a2,b2,c2,fun k hk=>⟨(d k hk).1,Nat.lt_of_lt_of_le (d k hk).2 hg.size⟩⟩
theorem Cd.alloc {B N bx sz:Nat} {bt e:TypeId} {Bw:World} {n:Nat} {xs:List Value} {X:Nat→Prop} {W:World} (h:Cd B N bx bt e sz Bw n xs X W) (hBw:B≤Bw.heap.size) (o:Obj):Cd B N bx bt e sz Bw n xs X (W.alloc o):=by
  obtain⟨⟨v,h1,h2,h3⟩,h5,h6,h7⟩:=h
  exact⟨⟨v,h1.alloc _,h2.alloc _,h3⟩,h5.alloc (Nat.le_trans hBw h5.size) _,by simp;omega,fun k hk=>⟨(h7 k hk).1,by have:=(h7 k hk).2;simp;omega⟩⟩
theorem Cd.app {B N bx sz M n₀ n1:Nat} {bt e:TypeId} {Bw:World} {n n':Nat} {xs xs':List Value} {X:Nat→Prop} {W W1 w1:World} {v v':Value} (hv:Boxed W bx bt v) (hrow:W.ownsRow B e sz v n xs) (hnx:¬X bx∧∀k,v.ownBlock=some k→¬X k∧(k<bx∨N≤k)) (hbl:Below B Bw W) (hsz:N≤W.heap.size) (hxb:∀k,X k→N≤k∧k<W.heap.size)
    (hbt:bt≠e) (hbx:B≤bx) (hn:n₀≤N) (hn1:bx<n1) (hBw:B≤Bw.heap.size) (hW:Below W.heap.size W W1) (hg:W1.grownBy w1 v.ownBlock) (hown:w1.ownsRow B e sz v' n' xs') (hv':v'.ownBlock=v.ownBlock∨v'.ownBlock=some W1.heap.size) :
    ∀W5,W5=w1.setCell ⟨bx,0,none⟩ v'→KeepsFrom M W W5∧KeepX n₀ (fun k=>k<n1) W W5∧(∀k,X k→W5.heap[k]? = W.heap[k]?)∧Cd B N bx bt e sz Bw n' xs' X W5:=by
  rintro W5 h5
  have hs1:W.heap.size≤w1.heap.size:=Nat.le_trans hW.size hg.size
  have hsz5:W5.heap.size=w1.heap.size:=by rw[h5];simp[World.setCell]
  have hk:∀k,k<W.heap.size→k≠bx→v.ownBlock≠some k→W5.heap[k]? = W.heap[k]? := fun k h1 h2 h3=>by
    rw[h5]
    exact(Below.heap_setCell _ _ _ k h2).trans ((hg.block k (by have:=hW.size;omega) (fun e=>h3 e.symm)).trans (hW.block k h1))
  have hv1:=box_grown hv hbt hrow hW hg
  have hb5:Boxed W5 bx bt v':=by rw[h5];exact hv1.set v'
  have ho5:W5.ownsRow B e sz v' n' xs':=by rw[h5];exact hown.kept (grownBy_setCell' w1 bx v') (.inr (hv1.not_row hbt hown).symm)
  have hbl5:Below B W W5:=by
    rw[h5]
    exact((hW.mono (by have:=hbl.size;omega)).grown hg (by have:=hW.size;have:=hbl.size;omega) (fun j e=>(hrow.lt j e).1)).setCell (p:=⟨bx,0,none⟩) hbx v'
  refine⟨⟨by omega,fun j o _ hj ho=>?_⟩,⟨by omega,fun k hkn hkx=>?_⟩,fun k hX=>hk k (hxb k hX).2 (fun e=>hnx.1 (by rw[←e];exact hX)) (fun e=>(hnx.2 k e).1 hX),⟨⟨v',hb5,ho5,hnx.1,fun k hkv=>?_⟩,hbl.trans hbl5,by omega,fun k hX=>⟨(hxb k hX).1,by have:=(hxb k hX).2;omega⟩⟩⟩
  ·have hjl:=(Array.getElem?_eq_some_iff.1 hj).1
   refine(hk j hjl (fun e=>?_) (fun e=>?_)).trans hj
   ·subst e
    have h9:=(show W.heap[j]? = _ from hv).symm.trans hj
    cases h9
    cases ho
   ·have:=own_not_cells hrow e hj
    rw[this] at ho
    cases ho
  ·have hkx:¬k<n1:=hkx
   exact hk k (by omega) (by omega) (fun e=>by have:=(hnx.2 k e).2;omega)
  ·rcases hv' with e|e
   ·exact hnx.2 k (by rw[←e];exact hkv)
   ·rw[e] at hkv
    injection hkv with hkv
    have:=hW.size
    exact⟨fun hX=>by have:=(hxb k hX).2;omega,.inr (by omega)⟩
theorem letC_get {c:Nat} (h:c<14):∃h':c<(ByteArray.mk #[63,95,35,124,48,114,99,97,110,113,112,115,104,101]).size,(ByteArray.mk #[63,95,35,124,48,114,99,97,110,113,112,115,104,101])[c]'h'=letC c:=by
  have key:∀c:Fin 14,(#[63,95,35,124,48,114,99,97,110,113,112,115,104,101]:Array UInt8)[c.1]'(c.2)=letC c.1:=by decide +kernel
  exact⟨h,key ⟨c,h⟩⟩
attribute [-go_sem] Builtin.append_
set_option maxHeartbeats 4000000 in
theorem letters_m (l:List UInt8) (w:World) (hl:l.length≤900) :
    Calls Tryz.prog 10 #[.string ⟨l.toArray⟩] w fun e w'=>e=.returned (.string ⟨((clsT l).map letC).toArray⟩)∧Below w.heap.size w w':=by
  obtain⟨i0,hi,hz0,hz1,hz2⟩:=info_parts Tryz.infoByte
  obtain⟨wm,hmk,hown0,hg0⟩:=run_make_own (P:=Tryz.prog) w w.heap.size 22 5 i0 _ 1 Tryz.underlying22 hi hz0 hz1 .i64 .i64 l.length (by rw[hz2];omega) (by unfold maxLen;omega) (Nat.le_refl _)
  have hbm:Below w.heap.size w wm:=(Below.refl _ w).grown hg0 (Nat.le_refl _) (fun k hk=>by cases hk)
  have hszm:w.heap.size<wm.heap.size:=(hown0.lt _ rfl).2
  have HM:=Lib.hid (And.intro hown0 (And.intro hbm hszm))
  clear hown0 hg0 hbm
  refine(callsIn_wide (n:=5)).1 ?_
  refine callsIn_of_wp_marks Tryz.func10 rfl trivial ?_ rfl
  simp only[Tryz.ntmps10,List.size_toArray,List.length_cons,List.length_nil,Nat.reduceAdd,Nat.reduceSub,Array.replicate_succ,Array.replicate_zero,List.push_toArray,List.append_toArray,List.nil_append,List.cons_append]
  gi_wp2_with (
    (refine⟨trivial,?_⟩
     gi_at_call 19
     refine(callsIn_wide.2 (classes_p l _)).mono ?_
     rintro e w2 ⟨rfl,rfl⟩))
  obtain⟨W0,hW0⟩:∃W0,(wm.alloc (.cells #[.slice (some ⟨w.heap.size,0,none⟩) 0 l.length] 22)).alloc (.cells #[.string ⟨l.toArray⟩] 9)=W0:=⟨_,rfl⟩
  have hs0:W0.heap.size=wm.heap.size+2:=by rw[←hW0];simp
  have hb0:Below wm.heap.size wm W0:=by rw[←hW0];exact((Below.refl _ wm).alloc (Nat.le_refl _) _).alloc (by simp) _
  have bO:Boxed W0 wm.heap.size 22 (.slice (some ⟨w.heap.size,0,none⟩) 0 l.length):=by rw[←hW0];exact(Boxed.new wm _ _).alloc _
  have kS:Bk W0 (wm.heap.size+1) 9 #[.string ⟨l.toArray⟩]:=by rw[←hW0];have:=Bk.new (wm.alloc (.cells #[.slice (some ⟨w.heap.size,0,none⟩) 0 l.length] 22)) 9 #[.string ⟨l.toArray⟩];rwa [World.size_alloc] at this
  have o0:W0.ownsRow w.heap.size 5 1 (.slice (some ⟨w.heap.size,0,none⟩) 0 l.length) 0 []:=own_below HM.out.1 hb0
  have hB0:Below w.heap.size w W0:=HM.out.2.1.trans (hb0.mono HM.out.2.1.size)
  rw[hW0]
  clear hW0
  have hcl:=clsT_len l
  have HG:=Lib.hid (clsT_rng l)
  refine rangeFunc_x (by omega) (gf:=25) (lb:=#[.pointer (some ⟨wm.heap.size+1,0,none⟩)]) rfl (enters_of Tryz.func25 (by kernel_rfl) rfl)
    (classes_seq W0.heap.size (wm.heap.size+1) (fun k=>k<wm.heap.size+1) l hl W0 kS ⟨by omega,by omega⟩ (Nat.le_refl _)) (fun h k=>h.trans k) (fun W l o o' hl h1 h2 h3=>keepX_put W l o o' hl h1 h2 h3) (Below.refl _ _) (fun _=>rfl)
    (fun X pre W=>Cd w.heap.size W0.heap.size wm.heap.size 22 5 1 w (pre.map letC).length (bvals (pre.map letC)) X W)
    (fun _ _ _ _=>False)
    (Cd.fits (n:=fun pre:List Nat=>(pre.map letC).length) (xs:=fun pre=>bvals (pre.map letC)) (by omega)) (fun _ _ _ _ _ h _=>h) (fun X pre W W' row h hg hr=>cd_own _ _ _ _ _ _ _ _ _ _ X (by omega) (Nat.le_refl _) () W W' row h hg hr) (fun _ _ _ _ _ _ h _ _=>h)
    ⟨⟨_,bO,o0,⟨fun h=>h,fun k hk=>⟨fun h=>h,by simp[Value.ownBlock] at hk;exact .inl (by omega)⟩⟩⟩,hB0,Nat.le_refl _,fun _ h=>h.elim⟩
    (fun x a' W=>a'={tmps:=#[.string ⟨l.toArray⟩,undef,.string ⟨#[]⟩,.pointer (some ⟨wm.heap.size,0,none⟩),.int .i64 (x:Int),.string ⟨l.toArray⟩,.int .i64 (l.length:Int),.slice (some ⟨w.heap.size,0,none⟩) 0 l.length,.string ⟨l.toArray⟩,.func (.func 25) #[] #[.pointer (some ⟨wm.heap.size+1,0,none⟩)],.int .i64 (x:Int),undef,undef,undef,undef,undef,undef,undef],defers:=[]})
    (fun x a'=>fun _ _ _ _ h _ _=>h) ?assign ?body ?done ?stop
  case assign=>
    intro l' X pre x W K hI hpx hK
    gi_wp2
    exact hK _ _ (keepsFrom_below (Below.refl _ _)) (KeepX.refl _ _ _) (fun k hk=>rfl) hI rfl
  case body=>
    rintro l' X pre x a' W hl1 hl2 ⟨⟨v,hv,hrow,hnx⟩,hB,hS,hxb⟩ rfl hpx
    have hlen:pre.length+1≤900:=by have:=hpx.length_le;simp at this;omega
    have hx13:x<14:=by have:=(HG.out x (hpx.subset (by simp))).2;omega
    obtain⟨hL3,hL4⟩:=letC_get hx13
    have u1:(x:Int)<14:=by omega
    have u2:(0:Int)≤(x:Int):=by omega
    have hc:=hv.cell
    have hf:=hv.frozen
    have hml:(pre.map letC).length=pre.length:=List.length_map ..
    have hbxl:=Boxed.lt hv
    gi_wp2_with fail
    have hmix:Tryz.prog.follows .mixedOrders=true:=by kernel_rfl
    refine wpIn_region_any (by assumption) ?_
    change wpAnyIn _ _ _ _ _ _ _ _ _ (World.drew _)
    refine wpAnyIn_ready (rs:=[0,1]) (by kernel_rfl) (by simp) ?_
    repeat' (first
      | with_reducible exact AllReadyIn.nil
      | with_reducible refine AllReadyIn.cons rfl (fun K hK=>?_) ?_
      | (revert hK
         intro hK
         go_simp
         first
           | (refine uponIn_append Tryz.underlying22 hi hz0 hz1 hz2 rfl (by decide) (by exact hrow.alloc _) (by exact rd_new W (bvals [letC x]) 5 1 1 rfl (by omega)) (one_bytes _) (by unfold maxLen;omega) (by omega) (by simp;omega) ?_
              intro v3 w3 hown3 hg3 hv3
              have kv3:Bk w3 wm.heap.size 22 #[v]:=Bk.overrow (w:=(W.alloc _).drew) (Bk.alloc hv _) (hrow.alloc _) hg3 (by decide)
              have hc3:=Boxed.cell kv3
              have hf3:=Boxed.frozen kv3
              obtain⟨A3,n3,c3,rfl⟩:=own_form' hown3
              have H3:=Lib.hid (And.intro hown3 (And.intro hg3 hv3))
              clear hown3 hg3 hv3 kv3
              refine hK _ _ ?_
              clear hK K)
           | (refine hK _ _ ?_
              clear hK K))
      | refine wpAnyIn_ready (rs:=[0,1]) (by decide +kernel) (by simp) ?_
      | refine wpAnyIn_ready (rs:=[0,2]) (by decide +kernel) (by simp) ?_
      | refine wpAnyIn_ready (rs:=[0,3]) (by decide +kernel) (by simp) ?_
      | refine wpAnyIn_ready (rs:=[0]) (by decide +kernel) (by simp) ?_
      | refine wpAnyIn_ready (rs:=[1]) (by decide +kernel) (by simp) ?_
      | refine wpAnyIn_ready (rs:=[2]) (by decide +kernel) (by simp) ?_
      | refine wpAnyIn_ready (rs:=[3]) (by decide +kernel) (by simp) ?_
      | refine wpAnyIn_ready (rs:=[4]) (by decide +kernel) (by simp) ?_
      | refine wpAnyIn_ready (rs:=[5]) (by decide +kernel) (by simp) ?_
      | (refine wpAnyIn_done (by decide +kernel) ?_ _
         obtain⟨o1,o2,o3⟩:=H3.out
         rw[show (pre.map letC).length+1=((pre++[x]).map letC).length by simp,show bvals (pre.map letC)++bvals [letC x]=bvals ((pre++[x]).map letC) by simp[bvals]] at o1
         exact Cd.app (M:=W0.heap.size) hv hrow hnx hB hS hxb (by decide) (by omega) (Nat.le_refl _) (Nat.lt_succ_self _) (Nat.le_refl _) ((Below.alloc (Below.refl _ _) (Nat.le_refl _) _).drew) o2 o1 o3 _ rfl))
  case done=>
    rintro D X ys W hD rfl ⟨⟨v,hv,hrow,hnx⟩,hB,hS,hxb⟩ hK
    have hc:=hv.cell
    have hcv:=bytes_back hrow
    have hbk:=belowK_b (w:=w) (Nat.le_refl _) W D (.deferred (some [])) (.deferred none) (by have:=hB0.size;omega) hK rfl rfl
    have HD:=Lib.hid (And.intro (hB.trans hbk) (And.intro hK hcv))
    clear hrow hnx hB hS hxb hK hcv hbk hv
    gi_wp2_with fail
    rw[HD.out.2.2]
    gi_wp2_with fail
    refine⟨by simp,.inl ⟨_,_,rfl,run_takeDeferred HD.out.2.1,?_⟩⟩
    exact⟨_,by simp[results,Tryz.results10,go_sem],⟨rfl,HD.out.1⟩⟩
  case stop=>
    intro D c X pre W _ _ h _
    exact h.elim
end Go.Proofs.YtgdifhhioahakaaGreatDoor
