/- parse.faults, parse.Clean and parse.Faults: the nodes that are Errors or Missings. -/
import Derived.Test.YtlbfdbinaekjoaaGreatDoorMb13
import Derived.Test.YtlbfdbinaekjoaaGreatDoorRfy
import Derived.Test.YtlbfdbinaekjoaaGreatDoorQc13
import Derived.RangeFuncNested
import Derived.Shelf.Abstract
import Derived.OwnWalkIn
namespace Go.Proofs.YtlbfdbinaekjoaaGreatDoor
open Go.RowKit
set_option linter.unusedVariables false
set_option linter.unusedSimpArgs false
set_option maxRecDepth 100000
attribute [local go_sem] Oper.semAt_some
structure Nz where
  kd:Int
  fr:Int
  tt:Int
  up:Int
def nzc (x:Nz):List Value:=[.int .i64 x.kd,.int .i64 x.fr,.int .i64 x.tt,.int .i64 x.up]
theorem nzc_len (x:Nz):(nzc x).length=4:=rfl
def nzcs (L:List Nz):List Value:=L.flatMap nzc
def nz (x:Nd):Nz:=⟨x.kd,x.fr,x.tt,x.up⟩
theorem ndcs_nz (L:List Nd):ndcs L=nzcs (L.map nz):=by
  unfold ndcs nzcs
  rw[List.flatMap_map]
  rfl
def fltB (x:Nz):Bool:=x.kd==17||x.kd==18
def fltA (L:List Nz) (i:Nat):Bool:=match L[i]? with|some x=>fltB x|none=>false
def fltK (L:List Nz) (k:Nat):List Nat:=(List.range k).filter (fltA L)
theorem fltK_succ (L:List Nz) (k:Nat):fltK L (k+1)=fltK L k++(if fltA L k=true then [k] else []):=by
  unfold fltK
  rw[List.range_succ,List.filter_append]
  congr 1
  by_cases h:fltA L k=true
  ·rw[if_pos h];simp[h]
  ·rw[if_neg h];simp[h]
theorem fltK_len (L:List Nz) (k:Nat):(fltK L k).length≤k:=by
  have:=List.length_filter_le (fltA L) (List.range k)
  rw[List.length_range] at this
  exact this
abbrev encI (i:Nat):Array Value:=#[.int .i64 (i:Int)]
theorem gob13 {W W':World} (h:Below W.heap.size W W'):W.grownBy W' none:=⟨h.1,h.2,h.3,h.size,fun k hk _=>h.block k hk⟩
set_option maxHeartbeats 4000000 in
theorem faults1_in (n l' bx c n₀:Nat) (L:List Nz) (A:Option Addr) (J Jx:List Nat→World→Prop) (hl:L.length≤100000)
    (hY:∀pre x W,J pre W→pre.length<L.length→YieldAt Fence.wide (n-1) Tryz.prog l' (encI x) W fun e W'=>
      (e=.returned (.bool true)∧J (pre++[x]) W'∧KeepX n₀ (fun _=>False) W W')∨(e=.returned (.bool false)∧Jx (pre++[x]) W'))
    (W:World) (hJ:AbidesFrom W.heap.size J) (hbx:Bk W bx 23 #[.slice A L.length c]) (hrd:Rd W n₀ 4 (.slice A L.length c) L.length (nzcs L)) (hn:n₀≤W.heap.size) (h0:J [] W) :
    CallsIn Fence.wide n Tryz.prog 37 #[.func (.yield l') #[] #[],.pointer (some ⟨bx,0,none⟩)] W fun e W'=>(∃v,e=.returned v) ∧
      ((∃ys,ys=fltK L L.length∧J ys W')∨(∃pre,fltK L L.length≠[]∧Jx pre W')):=by
  have y0:W.cell? ⟨bx,0,none⟩=some (.slice A L.length c):=by rw[hbx.cell];rfl
  have HK:=Lib.hid (And.intro hJ (And.intro h0 (And.intro hY hrd)))
  clear hJ h0 hY hbx hrd
  refine callsIn_of_wp Tryz.func37 rfl trivial ?_ rfl
  simp only[Tryz.ntmps37,List.size_toArray,List.length_cons,List.length_nil,Nat.reduceAdd,Nat.reduceSub,Array.replicate_succ,Array.replicate_zero,List.push_toArray,List.append_toArray,List.nil_append,List.cons_append]
  gi_wp2_with fail
  gi_loopw [7] (fun i wr=>∃k:Nat,k≤L.length∧i=.int .i64 k∧J (fltK L k) wr∧Below W.heap.size W W∧KeepX n₀ (fun _=>False) W wr∧W.heap.size≤wr.heap.size) (fun i _=>L.length-(intOf i).toNat)
  case atStart=>exact⟨0,Nat.zero_le _,rfl,HK.out.2.1,Below.refl _ _,KeepX.refl _ _ _,Nat.le_refl _⟩
  case round=>
    obtain⟨k,hk,rfl,hJp,_,hkc,hsz⟩:=hrel
    by_cases hlt:k<L.length
    ·have u1:(k:Int)<(L.length:Int):=by omega
     have u2:(0:Int)≤(k:Int):=by omega
     obtain⟨x,hx⟩:∃x,L[k]? = some x:=⟨_,List.getElem?_eq_getElem hlt⟩
     obtain⟨g,o,rfl,hgl,hc⟩:=rd_sat nzc_len HK.out.2.2.2 hx rfl
     have z0:wr.cell? ⟨g,o+k*4,none⟩=some (.int .i64 x.kd):=(hkc.cell hgl (fun h=>h) _).trans (hc 0 _ rfl)
     have z1:wr.cell? ⟨g,o+k*4+1,none⟩=some (.int .i64 x.fr):=(hkc.cell hgl (fun h=>h) _).trans (hc 1 _ rfl)
     have z2:wr.cell? ⟨g,o+k*4+2,none⟩=some (.int .i64 x.tt):=(hkc.cell hgl (fun h=>h) _).trans (hc 2 _ rfl)
     have z3:wr.cell? ⟨g,o+k*4+3,none⟩=some (.int .i64 x.up):=(hkc.cell hgl (fun h=>h) _).trans (hc 3 _ rfl)
     have hfa:fltA L k=fltB x:=by unfold fltA;rw[hx]
     have hsuc:=fltK_succ L k
     rw[hfa] at hsuc
     have hba:Below wr.heap.size wr (wr.alloc (.cells #[.int .i64 x.kd,.int .i64 x.fr,.int .i64 x.tt,.int .i64 x.up] 38)):=(Below.refl _ wr).alloc (Nat.le_refl _) _
     have hJ1:=HK.out.1 (fltK L k) wr _ none hJp (gob13 hba) (by simp)
     have hkc1:KeepX n₀ (fun _=>False) W (wr.alloc (.cells #[.int .i64 x.kd,.int .i64 x.fr,.int .i64 x.tt,.int .i64 x.up] 38)):=hkc.trans (KeepX.of_below hba (Nat.le_trans hn hsz))
     have hpl:(fltK L k).length<L.length:=Nat.lt_of_le_of_lt (fltK_len L k) hlt
     have hne:fltB x=true→fltK L L.length≠[]:=fun h e=>by
       have h1:k∈fltK L L.length:=List.mem_filter.2 ⟨List.mem_range.2 hlt,by rw[hfa];exact h⟩
       rw[e] at h1
       cases h1
     have hs1:W.heap.size≤(wr.alloc (.cells #[.int .i64 x.kd,.int .i64 x.fr,.int .i64 x.tt,.int .i64 x.up] 38)).heap.size:=by simp;omega
     have key:(x.kd=17)∨(x.kd≠17∧x.kd=18)∨(x.kd≠17∧x.kd≠18):=by omega
     rcases key with h17|⟨h17,h18⟩|⟨h17,h18⟩
     case' inl=>
       have t1:(x.kd==17)=true:=by rw[h17];rfl
       have hb:fltB x=true:=by unfold fltB;rw[t1];rfl
     case' inr.inl=>
       have t1:(x.kd==17)=false:=beq_false_of_ne h17
       have t2:(x.kd==18)=true:=by rw[h18];rfl
       have hb:fltB x=true:=by unfold fltB;rw[t1,t2];rfl
     case' inr.inr=>
       have t1:(x.kd==17)=false:=beq_false_of_ne h17
       have t2:(x.kd==18)=false:=beq_false_of_ne h18
       have hb:fltB x=false:=by unfold fltB;rw[t1,t2];rfl
       rw[hb,if_neg (by decide),List.append_nil] at hsuc
       have HR:=Lib.hid (And.intro hJ1 (And.intro hkc1 (And.intro hsuc hs1)))
       clear hJ1 hkc1 hsuc hne hfa hba hJp hkc hc hx hs1 hb h17 h18
       gi_wp2_with (
         ((with_reducible refine⟨fun f h=>?_,?_⟩);cases h))
       exact⟨⟨k+1,by omega,by go_num,by rw[HR.out.2.2.1];exact HR.out.1,Below.refl _ _,HR.out.2.1,HR.out.2.2.2⟩,by simp[intOf];omega⟩
     all_goals (
       rw[hb,if_pos rfl] at hsuc
       have hne:=hne hb
       obtain⟨fn,tmps,assign,body,hy,hR⟩:=HK.out.2.2.1 (fltK L k) k _ hJ1 hpl
       have hR2:=Lib.hid hR
       clear hR
       simp only[encI] at hy
       have hy2:=Lib.hid hy
       have HR:=Lib.hid (And.intro hkc1 (And.intro hsuc (And.intro hs1 hne)))
       clear hy hJ1 hkc1 hsuc hne hfa hba hJp hkc hc hx hs1 hb h17
       try clear h18
       gi_wp2_with fail
       rw[hy2.out]
       gi_wp2
       refine⟨fun h=>by simp[Fence.wide] at h,?_⟩
       refine hR2.out.mono ?_
       rintro e W3 (⟨rfl,hJ3,hk3⟩|⟨rfl,hJx3⟩)
       ·have H3:=Lib.hid (And.intro hJ3 hk3)
        clear hJ3 hk3
        gi_wp2
        exact⟨⟨k+1,by omega,by go_num,by rw[HR.out.2.1];exact H3.out.1,Below.refl _ _,HR.out.1.trans H3.out.2,Nat.le_trans HR.out.2.2.1 H3.out.2.size⟩,by simp[intOf];omega⟩
       ·have H3:=Lib.hid hJx3
        clear hJx3
        gi_wp2
        refine bodyPost_ret (results_none rfl _ _ _) rfl ?_
        exact⟨⟨_,rfl⟩,.inr ⟨_,HR.out.2.2.2,H3.out⟩⟩)
    ·obtain rfl:k=L.length:=by omega
     have HR:=Lib.hid hJp
     clear hJp hkc
     gi_wp2
     go_end0
     exact⟨⟨_,rfl⟩,.inl ⟨_,rfl,HR.out⟩⟩
theorem faults_p (v:Value) (w:World) (hv:∃A n c,v=.slice A n c) :
    Calls Tryz.prog 19 #[v] w fun e w'=>e=.returned (.func (.func 37) #[] #[.pointer (some ⟨w.heap.size,0,none⟩)])∧w'=w.alloc (.cells #[v] 23):=by
  obtain⟨A,n,c,rfl⟩:=hv
  go_enter Tryz.func19,Tryz.ntmps19
  go_wp2
  go_ret
  exact⟨rfl,rfl⟩
end Go.Proofs.YtlbfdbinaekjoaaGreatDoor
namespace Go.Proofs.YtlbfdbinaekjoaaGreatDoor
open Go.RowKit
set_option linter.unusedVariables false
set_option linter.unusedSimpArgs false
set_option maxRecDepth 100000
attribute [local go_sem] Oper.semAt_some
def ics (l:List Nat):List Value:=l.map fun (i:Nat)=>Value.int .i64 (i:Int)
theorem ics_snoc (l:List Nat) (x:Nat):ics (l++[x])=ics l++ics [x]:=by simp[ics]
theorem one_ic (l:List Nat):∀u∈ics l,u.oneCell'=true:=by
  intro u hu
  obtain⟨x,_,rfl⟩:=List.mem_map.1 hu
  rfl
theorem cells_ic (W:World) (x:Nat):∀j u,(ics [x])[j]? = some u→(W.alloc (.cells (ics [x]).toArray 3)).cell? ((⟨W.heap.size,0,none⟩:Addr).add j)=some u:=by
  intro j u hu
  rw[Addr.add_lit,Nat.zero_add,Bk.cell (Bk.new W _ _)]
  simpa using hu
theorem Tryz.infoInt13:(Tryz.prog.info? 3).map (fun i=>(i.zero,i.size,i.bytes))=some (some (.int .i64 0),1,8):=by kernel_rfl
theorem faults_stops (n bx c n₀:Nat) (L:List Nz) (A:Option Addr) (w:World) (hl:L.length≤100000) (hbx:Bk w bx 23 #[.slice A L.length c]) (hrd:Rd w n₀ 4 (.slice A L.length c) L.length (nzcs L)) (hn:n₀≤w.heap.size) :
    SeqStopsK Fence.wide n Tryz.prog 37 #[.pointer (some ⟨bx,0,none⟩)] encI (KeepX n₀ (fun _=>False)) (fun ys=>ys=fltK L L.length) (fun _=>fltK L L.length≠[]) L.length w:=fun l' J Jx W hW hJ _ hY h0=>
  faults1_in n l' bx c n₀ L A J Jx hl hY W hJ (hbx.below hW hbx.lt) (hrd.keep (hW.mono hn) (Nat.le_refl _)) (Nat.le_trans hn hW.size) h0
set_option maxHeartbeats 4000000 in
theorem appendI_m (bx c:Nat) (L:List Nz) (A:Option Addr) (w:World) (hl:L.length≤100000) (hbx:Bk w bx 23 #[.slice A L.length c]) (hrd:Rd w w.heap.size 4 (.slice A L.length c) L.length (nzcs L)) :
    Calls Tryz.prog 36 #[.slice none 0 0,.func (.func 37) #[] #[.pointer (some ⟨bx,0,none⟩)]] w fun e w'=>∃v,e=.returned v∧w'.ownsRow w.heap.size 3 1 v (fltK L L.length).length (ics (fltK L L.length))∧Below w.heap.size w w':=by
  obtain⟨i0,hi,hz0,hz1,hz2⟩:=info_parts Tryz.infoInt13
  refine(callsIn_wide (n:=5)).1 ?_
  refine callsIn_of_wp_marks Tryz.func36 rfl trivial ?_ rfl
  simp only[Tryz.ntmps36,List.size_toArray,List.length_cons,List.length_nil,Nat.reduceAdd,Nat.reduceSub,Array.replicate_succ,Array.replicate_zero,List.push_toArray,List.append_toArray,List.nil_append,List.cons_append]
  gi_wp2_with fail
  obtain⟨W0,hW0⟩:∃W0,w.alloc (.cells #[.slice none 0 0] 31)=W0:=⟨_,rfl⟩
  have bO:Boxed W0 w.heap.size 31 (.slice none 0 0):=by rw[←hW0];exact Boxed.new w _ _
  have hs0:W0.heap.size=w.heap.size+1:=by rw[←hW0];simp
  have hb0:Below w.heap.size w W0:=by rw[←hW0];exact(Below.refl _ w).alloc (Nat.le_refl _) _
  rw[hW0]
  clear hW0
  have HW:=Lib.hid hb0
  refine wpIn_rangeFunc_ownH rfl (by omega) (gf:=37) (lb:=#[.pointer (some ⟨bx,0,none⟩)]) rfl trivial (enters_of Tryz.func37 (by kernel_rfl) rfl)
    (faults_stops (5-1) bx c w.heap.size L A W0 hl (hbx.below hb0 hbx.lt) (hrd.keep hb0 (Nat.le_refl _)) hb0.size) (fun h k=>h.trans k) (fun W l o o' hl h1 h2 h3=>keepX_put W l o o' (by omega) h1 h2 h3) (Below.refl _ _) (fun _=>rfl)
    (fun pre W=>(∃v,Boxed W w.heap.size 31 v∧W.ownsRow W0.heap.size 3 1 v pre.length (ics pre)∧True)∧Below w.heap.size w W∧W0.heap.size≤W.heap.size)
    (fun _ _ _=>False)
    (OwnFrom.and (Own.from (holdsRow_own W0.heap.size w.heap.size 31 3 1 (fun pre=>pre.length) (fun pre=>ics pre) (fun pre v=>True)) _) (OwnFrom.and (ownFrom_below (Nat.le_refl _) (by omega)) (ownFrom_size _ _)))
    (fun _ _ _ _ _ hs _ _=>hs)
    ⟨⟨_,bO,World.ownsRow_nil _ _ _ _,trivial⟩,HW.out,Nat.le_refl _⟩
    (fun x a' W=>a'={tmps:=#[.slice none 0 0,.func (.func 37) #[] #[.pointer (some ⟨bx,0,none⟩)],.pointer (some ⟨w.heap.size,0,none⟩),undef,.slice none 0 0,.int .i64 (x:Int),.func (.func 37) #[] #[.pointer (some ⟨bx,0,none⟩)],.int .i64 (x:Int),undef,undef,undef,undef,undef],defers:=[]})
    (fun x a' s W W' row hs hg hr=>hs) ?assign ?body ?done ?stop
  case assign=>
    intro l' pre x W K hI hK
    gi_wp2
    exact hK _ _ (KeepsFrom.refl _ _) (KeepX.refl _ _ _) hI rfl
  case body=>
    rintro l' pre x a' W hl1 hl2 ⟨⟨v,hv,hrow,_⟩,hB,hS⟩ rfl hlt
    have hc:=hv.cell
    have hf:=hv.frozen
    have hpl0:pre.length≤100000:=by omega
    gi_wp2_with (
      (gi_at_builtin
       refine wpListIn_append_own _ rfl (.tmp 8) (.tmp 10) 31 rfl W0.heap.size 3 i0 _ 1 8 Tryz.underlying31 hi hz0 hz1 hz2 rfl (by decide) v pre.length (ics pre) rfl (hrow.alloc _) ⟨W.heap.size,0,none⟩ 1 1 (ics [x]) rfl rfl (cells_ic W x) (one_ic [x]) (by unfold maxLen;omega) (by omega) (by simp;omega) ?_
       intro v3 w3 hown3 hg3 _
       have hW1:Below W.heap.size W (W.alloc (.cells (ics [x]).toArray 3)):=Below.alloc (Below.refl _ _) (Nat.le_refl _) _
       have hv3:=box_grown hv (by decide) hrow hW1 hg3
       have hc3:=hv3.cell
       have hf3:=hv3.frozen
       obtain⟨A3,n3,c3,rfl⟩:=own_form' hown3
       have hkc:KeepX w.heap.size (fun _=>False) W (w3.setCell ⟨w.heap.size,0,none⟩ (.slice A3 n3 c3)):=((KeepX.of_below hW1 (by have:=hB.size;omega)).trans (KeepX.of_grown hg3 (by have:=hB.size;simp;omega) (fun k hk=>.inl (by have:=(hrow.lt k hk).1;omega)))).set (.inl (Nat.le_refl _)) _ _
       have H3:=Lib.hid (And.intro hkc (box_append (M:=W0.heap.size) hv (by decide) hrow hS (by omega) hW1 hg3 hown3))
       clear hown3 hg3 hv3 hW1 hkc))
    obtain⟨q0,q1,q2,q3,q4,q5,q6⟩:=H3.out
    exact⟨q1,q0,⟨_,q3,by rw[ics_snoc,List.length_append];exact q4,trivial⟩,hB.trans (q5 _ (Nat.le_refl _)),q6⟩
  case done=>
    rintro D ys W hD rfl ⟨⟨v,hv,hrow,_⟩,hB,hS⟩ hK
    have hc:=hv.cell
    have hbk:=belowK_b (w:=w) (Nat.le_refl _) W D (.deferred (some [])) (.deferred none) (by omega) hK rfl rfl
    have hrow3:=hrow.kept (grownBy_putObj' W D (.deferred none)) (.inr (fun e=>by have:=own_not_cells hrow e hK;cases this))
    have HD:=Lib.hid (And.intro hB (And.intro hbk hrow3))
    have HK2:=Lib.hid hK
    clear hB hbk hrow hrow3 hv hK
    gi_wp2
    refine⟨by simp,.inl ⟨_,_,rfl,run_takeDeferred HK2.out,?_⟩⟩
    exact⟨v,by simp[results,Tryz.results36,go_sem],⟨_,rfl,own_base HD.out.2.2 (by omega),HD.out.1.trans HD.out.2.1⟩⟩
  case stop=>
    intro D c pre W _ _ h _
    exact h.elim
theorem collectI_m (bx c:Nat) (L:List Nz) (A:Option Addr) (w:World) (hl:L.length≤100000) (hbx:Bk w bx 23 #[.slice A L.length c]) (hrd:Rd w w.heap.size 4 (.slice A L.length c) L.length (nzcs L)) :
    Calls Tryz.prog 18 #[.func (.func 37) #[] #[.pointer (some ⟨bx,0,none⟩)]] w fun e w'=>∃v,e=.returned v∧w'.ownsRow w.heap.size 3 1 v (fltK L L.length).length (ics (fltK L L.length))∧Below w.heap.size w w':=by
  have H:=Lib.hid (appendI_m bx c L A w hl hbx hrd)
  clear hbx hrd
  go_enter Tryz.func18,Tryz.ntmps18
  go_wp2_with (
    (go_at_call 36
     refine H.out.mono ?_
     rintro e w2 ⟨v,rfl,h1,h2⟩
     have H2:=Lib.hid (And.intro h1 h2)
     clear h1 h2))
  go_ret
  exact⟨_,rfl,H2.out⟩
theorem faults_m (c:Nat) (L:List Nz) (A:Option Addr) (w:World) (hl:L.length≤100000) (hrd:Rd w w.heap.size 4 (.slice A L.length c) L.length (nzcs L)) :
    Calls Tryz.prog 10 #[.slice A L.length c] w fun e w'=>∃v,e=.returned v∧w'.ownsRow w.heap.size 3 1 v (fltK L L.length).length (ics (fltK L L.length))∧Below w.heap.size w w':=by
  have H:=Lib.hid hrd
  clear hrd
  go_enter Tryz.func10,Tryz.ntmps10
  go_wp2_with (first
    | (go_at_call 19
       refine(faults_p _ _ ⟨_,_,_,rfl⟩).mono ?_
       rintro e w1 ⟨rfl,rfl⟩)
    | (go_at_call 18
       have hba:Below w.heap.size w (w.alloc (.cells #[.slice A L.length c] 23)):=(Below.refl _ w).alloc (Nat.le_refl _) _
       refine(collectI_m _ c L A _ hl (Bk.new w _ _) (H.out.next hba)).mono ?_
       rintro e w2 ⟨v,rfl,h1,h2⟩
       have H2:=Lib.hid (And.intro (own_base h1 hba.size) (hba.trans (h2.mono hba.size)))
       clear h1 h2 hba)
    | fail)
  go_ret
  exact⟨_,rfl,H2.out⟩
end Go.Proofs.YtlbfdbinaekjoaaGreatDoor
namespace Go.Proofs.YtlbfdbinaekjoaaGreatDoor
open Go.RowKit
set_option linter.unusedVariables false
set_option linter.unusedSimpArgs false
set_option maxRecDepth 100000
attribute [local go_sem] Oper.semAt_some
set_option maxHeartbeats 4000000 in
theorem clean_m (c:Nat) (L:List Nz) (A:Option Addr) (w:World) (hl:L.length≤100000) (hrd:Rd w w.heap.size 4 (.slice A L.length c) L.length (nzcs L)) :
    Calls Tryz.prog 11 #[.slice A L.length c] w fun e w'=>e=.returned (.bool (fltK L L.length==[]))∧Below w.heap.size w w':=by
  obtain⟨b,hb⟩:∃b,b=(fltK L L.length==[]):=⟨_,rfl⟩
  have hb1:fltK L L.length≠[]→b=false:=fun h=>by rw[hb];exact beq_false_of_ne h
  have hb2:fltK L L.length=[]→b=true:=fun h=>by rw[hb,h];rfl
  rw[←hb]
  have HBB:=Lib.hid (And.intro hb1 hb2)
  clear hb hb1 hb2
  refine(callsIn_wide (n:=5)).1 ?_
  refine callsIn_of_wp_marks Tryz.func11 rfl trivial ?_ rfl
  simp only[Tryz.ntmps11,List.size_toArray,List.length_cons,List.length_nil,Nat.reduceAdd,Nat.reduceSub,Array.replicate_succ,Array.replicate_zero,List.push_toArray,List.append_toArray,List.nil_append,List.cons_append]
  have HR:=Lib.hid hrd
  clear hrd
  gi_wp2_with (
    (refine⟨trivial,?_⟩
     gi_at_call 19
     refine(callsIn_wide.2 (faults_p _ _ ⟨_,_,_,rfl⟩)).mono ?_
     rintro e w2 ⟨rfl,rfl⟩))
  obtain⟨W0,hW0⟩:∃W0,(w.alloc (.cells #[.bool false] 4)).alloc (.cells #[.slice A L.length c] 23)=W0:=⟨_,rfl⟩
  have bO:Bk W0 w.heap.size 4 #[.bool false]:=by rw[←hW0];exact(Bk.new w _ _).alloc _
  have bL:Bk W0 (w.heap.size+1) 23 #[.slice A L.length c]:=by rw[←hW0];have:=Bk.new (w.alloc (.cells #[.bool false] 4)) 23 #[.slice A L.length c];rwa [World.size_alloc] at this
  have hs0:W0.heap.size=w.heap.size+2:=by rw[←hW0];simp
  have hb0:Below w.heap.size w W0:=by rw[←hW0];exact((Below.refl _ w).alloc (Nat.le_refl _) _).alloc (by simp) _
  rw[hW0]
  clear hW0
  have HW:=Lib.hid hb0
  have hIo:∀(v:Value),OwnFrom (β:=List Nat) W0.heap.size (fun _ W=>Bk W w.heap.size 4 #[v]∧Below w.heap.size w W∧W0.heap.size≤W.heap.size):=fun v=>
    OwnFrom.and (fun (s:List Nat) W W' row (hs:Bk W w.heap.size 4 #[v]) hg hr=>hs.grown hg (fun e=>by have:=hr _ e.symm;omega)) (OwnFrom.and (ownFrom_below (Nat.le_refl _) (by omega)) (ownFrom_size _ _))
  refine wpIn_rangeFunc_ownH rfl (by omega) (gf:=37) (lb:=#[.pointer (some ⟨w.heap.size+1,0,none⟩)]) rfl trivial (enters_of Tryz.func37 (by kernel_rfl) rfl)
    (faults_stops (5-1) (w.heap.size+1) c w.heap.size L A W0 hl bL (HR.out.keep hb0 (Nat.le_refl _)) hb0.size) (fun h k=>h.trans k) (fun W l o o' hl h1 h2 h3=>keepX_put W l o o' (by omega) h1 h2 h3) (Below.refl _ _) (fun _=>rfl)
    (fun pre W=>pre=[]∧Bk W w.heap.size 4 #[.bool false]∧Below w.heap.size w W∧W0.heap.size≤W.heap.size)
    (fun cc pre W=>cc=Code.ret∧Bk W w.heap.size 4 #[.bool false]∧Below w.heap.size w W∧W0.heap.size≤W.heap.size)
    (fun s W W' row hs hg hr=>⟨hs.1,hIo _ s W W' row hs.2 hg hr⟩) (fun cc s W W' row hs hg hr=>⟨hs.1,hIo _ s W W' row hs.2 hg hr⟩)
    ⟨rfl,bO,HW.out,Nat.le_refl _⟩
    (fun x a' W=>a'={tmps:=#[.slice A L.length c,undef,.pointer (some ⟨w.heap.size,0,none⟩),.slice A L.length c,.func (.func 37) #[] #[.pointer (some ⟨w.heap.size+1,0,none⟩)],.int .i64 (x:Int)],defers:=[]})
    (fun x a' s W W' row hs hg hr=>hs) ?assign ?body ?done ?stop
  case assign=>
    intro l' pre x W K hI hK
    have h1:=hK _ W (KeepsFrom.refl _ _) (KeepX.refl _ _ _) hI rfl
    simp only[encI]
    gi_wp2
    simpa using h1
  case body=>
    rintro l' pre x a' W hl1 hl2 ⟨hpre,hv,hB,hS⟩ rfl hlt
    have hc:=hv.cell 0
    simp only[List.getElem?_toArray,List.getElem?_cons_zero] at hc
    have hf:=hv.frozen 0
    have hset:Bk (W.setCell ⟨w.heap.size,0,none⟩ (.bool false)) w.heap.size 4 #[.bool false]:=hv.set 0 _
    have hkf:KeepsFrom W0.heap.size W (W.setCell ⟨w.heap.size,0,none⟩ (.bool false)):=⟨by simp[World.setCell],fun k o hk h0 ho=>(Below.heap_setCell _ _ _ k (by show k≠w.heap.size;omega)).trans h0⟩
    have HB:=Lib.hid (And.intro hset (And.intro hkf (And.intro (hB.setCell (p:=⟨w.heap.size,0,none⟩) (Nat.le_refl _) (.bool false)) hS)))
    clear hset hkf hB hv
    gi_wp2_with fail
    exact⟨HB.out.2.1,rfl,HB.out.1,HB.out.2.2.1,by simp[World.setCell];exact HB.out.2.2.2⟩
  case done=>
    rintro D ys W hD hys ⟨rfl,hv,hB,hS⟩ hK
    have hbt:b=true:=HBB.out.2 hys.symm
    have hc:=hv.cell 0
    simp only[List.getElem?_toArray,List.getElem?_cons_zero] at hc
    have hf:=hv.frozen 0
    have hset:Bk (W.setCell ⟨w.heap.size,0,none⟩ (.bool true)) w.heap.size 4 #[.bool true]:=hv.set 0 _
    have hK4:(W.setCell ⟨w.heap.size,0,none⟩ (.bool true)).heap[D]? = some (.deferred (some [])):=(Below.heap_setCell _ _ _ D (by show D≠w.heap.size;omega)).trans hK
    have hb4:Below w.heap.size w (W.setCell ⟨w.heap.size,0,none⟩ (.bool true)):=hB.setCell (p:=⟨w.heap.size,0,none⟩) (Nat.le_refl _) _
    have hbk:=belowK_b (w:=w) (Nat.le_refl _) (W.setCell ⟨w.heap.size,0,none⟩ (.bool true)) D (.deferred (some [])) (.deferred none) (by omega) hK4 rfl rfl
    have e0:((W.setCell ⟨w.heap.size,0,none⟩ (.bool true)).putObj D (.deferred none)).cell? ⟨w.heap.size,0,none⟩=some (.bool true):=by
      rw[Bk.cell (show Bk ((W.setCell ⟨w.heap.size,0,none⟩ (.bool true)).putObj D (.deferred none)) w.heap.size 4 #[.bool true] from (World.putObj_heap_other (by omega)).trans hset)];rfl
    have HD:=Lib.hid (And.intro hb4 (And.intro hbk (And.intro hK4 (And.intro e0 hbt))))
    clear hv hB hbk hK hK4 e0 hbt hset hb4 hys
    gi_wp2
    refine⟨by simp,.inl ⟨_,_,rfl,run_takeDeferred HD.out.2.2.1,?_⟩⟩
    have e0:=HD.out.2.2.2.1
    exact⟨.bool true,by simp[results,Tryz.results11,go_sem,e0],⟨by rw[HD.out.2.2.2.2],HD.out.1.trans HD.out.2.1⟩⟩
  case stop=>
    rintro D cd pre W hD hne ⟨rfl,hv,hB,hS⟩ hK
    have hbk:=belowK_b (w:=w) (Nat.le_refl _) W D (.deferred (some [])) (.deferred none) (by omega) hK rfl rfl
    have e0:(W.putObj D (.deferred none)).cell? ⟨w.heap.size,0,none⟩=some (.bool false):=by
      rw[Bk.cell (show Bk (W.putObj D (.deferred none)) w.heap.size 4 #[.bool false] from (World.putObj_heap_other (by omega)).trans hv)];rfl
    have hbf:b=false:=HBB.out.1 hne
    have HD:=Lib.hid (And.intro hB (And.intro hbk (And.intro hK (And.intro e0 hbf))))
    clear hv hB hbk hK e0 hbf
    gi_wp2
    refine⟨by simp,.inl ⟨_,_,rfl,run_takeDeferred HD.out.2.2.1,?_⟩⟩
    have e0:=HD.out.2.2.2.1
    exact⟨.bool false,by simp[results,Tryz.results11,go_sem,e0],⟨by rw[HD.out.2.2.2.2],HD.out.1.trans HD.out.2.1⟩⟩
end Go.Proofs.YtlbfdbinaekjoaaGreatDoor
