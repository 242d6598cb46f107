/- Paint: Runs: rows of bytes of one class. -/
import Derived.Test.YtgdifhhioahakaaGreatDoorLe24
namespace Go.Proofs.YtgdifhhioahakaaGreatDoor
open Go.RowKit
set_option linter.unusedVariables false
set_option linter.unusedSimpArgs false
set_option maxRecDepth 100000
attribute [local go_sem] Oper.semAt_some
def rnc (x:Rn):List Value:=[.int .i64 (x.c:Int),.int .i64 (x.a:Int),.int .i64 (x.b:Int)]
def rncs (L:List Rn):List Value:=L.flatMap rnc
theorem rncs_app (L M:List Rn):rncs (L++M)=rncs L++rncs M:=by simp[rncs]
theorem rncs_len (L:List Rn):(rncs L).length=L.length*3:=by
  induction L with
  | nil=>rfl
  | cons x r ih=>simp[rncs,rnc] at ih ⊢;omega
theorem one_rn (x:Rn):∀u∈rncs [x],u.oneCell'=true:=by
  intro u hu
  simp[rncs,rnc] at hu
  rcases hu with rfl|rfl|rfl<;>rfl
theorem rncs_last (o:List Rn) (r:Rn) (z:Nat):(rncs (o++[r])).set (o.length*3+2) (.int .i64 (z:Int))=rncs (o++[⟨r.c,r.a,z⟩]):=by
  rw[rncs_app,rncs_app,List.set_append_right _ _ (by rw[rncs_len];omega),rncs_len,Nat.add_sub_cancel_left]
  rfl
theorem addR_same {o:List Rn} {r:Rn} {x c:Nat} (h:r.c=c):addR (o++[r]) x c=o++[⟨r.c,r.a,x+1⟩]:=by
  unfold addR
  rw[List.getLast?_concat]
  simp only
  rw[if_pos h,List.dropLast_concat,h]
theorem addR_new {o:List Rn} {x c:Nat} (h:∀r,o.getLast? = some r→r.c≠c):addR o x c=o++[⟨c,x,x+1⟩]:=by
  unfold addR
  cases hl:o.getLast? with
  | none=>rw[List.getLast?_eq_none_iff.1 hl];rfl
  | some r=>
    simp only
    rw[if_neg (h r hl)]
theorem addR_len (o:List Rn) (x c:Nat):(addR o x c).length≤o.length+1:=by
  unfold addR
  split
  ·split
   ·simp
   ·simp
  ·simp
theorem runsT_len:∀cs:List Nat,(runsT cs).length≤cs.length:=by
  intro cs
  have key:∀r:List Nat,(runsT r.reverse).length≤r.length:=by
    intro r
    induction r with
    | nil=>exact Nat.le_refl _
    | cons c r ih=>
      rw[List.reverse_cons,runsT_snoc]
      have:=addR_len (runsT r.reverse) r.reverse.length c
      simp only[List.length_cons]
      omega
  have:=key cs.reverse
  rwa [List.reverse_reverse,List.length_reverse] at this
structure Ru (B N:Nat) (Bw:World) (n:Nat) (xs:List Value) (k:Int) (X:Nat→Prop) (W:World):Prop where
  c:Cb B N B 28 31 3 Bw n xs X W
  a:Bk W (B+1) 3 #[.int .i64 k]
  x:¬X (B+1)
theorem Ru.fits {B N:Nat} {Bw:World} {n:List Nat→Nat} {xs:List Nat→List Value} {k:List Nat→Int} (hB:B≤N):Fits (fun (X:Nat→Prop) (pre:List Nat) W=>Ru B N Bw (n pre) (xs pre) (k pre) X W):=by
  rintro X s A C ⟨h1,h2,h3⟩ hx
  refine⟨Cb.fits (n:=n) (xs:=xs) hB X s A C h1 hx,(hx.block _ h2.lt h3).trans h2,?_⟩
  rintro (h|h)
  ·exact h3 h
  ·have:=h2.lt;omega
theorem Ru.ofs {B N M:Nat} {Bw:World} {n:Nat} {xs:List Value} {k:Int} (X:Nat→Prop) (hB:B≤M) (hB2:B≤Bw.heap.size):OwnFrom M (fun (_:Unit) W=>Ru B N Bw n xs k X W):=by
  rintro s W W' row ⟨h1,h2,h3⟩ hg hr
  refine⟨cb_own _ _ _ _ _ _ _ _ _ _ X hB hB2 () W W' row h1 hg hr,h2.grown hg (fun e=>?_),h3⟩
  obtain⟨_,o,ho,hc⟩:=hr _ e.symm
  rw[show W.heap[B+1]? = _ from h2] at ho
  cases ho
  cases hc
theorem Ru.tick {B N:Nat} {Bw W:World} {n:Nat} {xs:List Value} {k:Int} {X:Nat→Prop} (h:Ru B N Bw n xs k X W) (k':Int):Ru B N Bw n xs k' X (W.setCell ⟨B+1,0,none⟩ (.int .i64 k')):=by
  obtain⟨⟨⟨v,h1,h2,h3⟩,h5,h6,h7⟩,h8,h9⟩:=h
  have hs:(W.setCell ⟨B+1,0,none⟩ (.int .i64 k')).heap.size=W.heap.size:=by simp[World.setCell]
  refine⟨⟨⟨v,Bk.far h1 (by show B≠B+1;omega) _,own_far h2 (own_ne h2 h8 (by decide)) _,h3⟩,h5.setCell (p:=⟨B+1,0,none⟩) (Nat.le_succ B) _,by rw[hs];exact h6,fun j hj=>by rw[hs];exact h7 j hj⟩,by simpa using h8.set 0 (.int .i64 k'),h9⟩
structure Rk (M n₀ B:Nat) (X:Nat→Prop) (W W':World):Prop where
  f:KeepsFrom M W W'
  x:KeepX n₀ (fun k=>k<B+2) W W'
  s:∀k,X k→W'.heap[k]? = W.heap[k]?
theorem Rk.trans {M n₀ B:Nat} {X:Nat→Prop} {A C D:World} (h:Rk M n₀ B X A C) (h':Rk M n₀ B X C D):Rk M n₀ B X A D:=
  ⟨⟨Nat.le_trans h.f.size h'.f.size,fun k o hM ho hc=>h'.f.same k o hM (h.f.same k o hM ho hc) hc⟩,h.x.trans h'.x,fun k hk=>(h'.s k hk).trans (h.s k hk)⟩
theorem Rk.set {M n₀ B:Nat} {X:Nat→Prop} {W:World} {g:Nat} {t:TypeId} {cs:Array Value} {fr:Nat×Nat} (hb:W.heap[g]? = some (.cells cs t fr)) (hx:¬X g) (hn:n₀≤g∨g<B+2) (o:Nat) (v:Value):Rk M n₀ B X W (W.setCell ⟨g,o,none⟩ v):=by
  refine⟨⟨by simp[World.setCell],fun k ob _ hk hc=>?_⟩,(KeepX.refl _ _ _).set hn o v,fun k hk=>Below.heap_setCell _ _ _ k (fun e=>hx (by have e':k=g:=e;rw[←e'];exact hk))⟩
  refine(Below.heap_setCell _ _ _ k (fun e=>?_)).trans hk
  have e':k=g:=e
  subst e'
  rw[hb] at hk
  cases hk
  cases hc
theorem Ru.app {B N M:Nat} {Bw:World} {n n':Nat} {xs xs':List Value} {k:Int} {X:Nat→Prop} {W W1 w1:World} {v v':Value} (hv:Boxed W B 28 v) (hrow:W.ownsRow N 31 3 v n xs) (hnx:¬X B∧∀k,v.ownBlock=some k→¬X k) (hbl:Below B Bw W) (hsz:N≤W.heap.size) (hxb:∀k,X k→B≤k∧k<W.heap.size) (ha:Bk W (B+1) 3 #[.int .i64 k]) (hx:¬X (B+1))
    (hbN:B<N) (hBw:B≤Bw.heap.size) (hW:Below W.heap.size W W1) (hg:W1.grownBy w1 v.ownBlock) (hown:w1.ownsRow N 31 3 v' n' xs') (hv':v'.ownBlock=v.ownBlock∨v'.ownBlock=some W1.heap.size) (hn:N=B+3) :
    Rk M N B X W (w1.setCell ⟨B,0,none⟩ v')∧Ru B N Bw n' xs' k X (w1.setCell ⟨B,0,none⟩ v'):=by
  obtain⟨q1,q2,q3,q4⟩:=Cb.app (M:=M) (n₀:=B) (Xc:=fun k=>k<B+2) hv hrow hnx hbl hsz hxb (by decide) (Nat.le_refl _) hbN (Nat.le_refl _) hBw hW hg hown hv'
  obtain⟨_,qx,_⟩:=box_append (M:=M) hv (by decide) hrow hsz hbN hW hg hown
  refine⟨⟨q1,⟨qx.size,fun k hk hnk=>qx.same k hk (fun e=>hnk (by show k<B+2;omega))⟩,q3⟩,q4,?_,hx⟩
  exact(qx.same (B+1) (by omega) (by omega)).trans ha
theorem Ru.grow {B N M:Nat} {Bw:World} {o:List Rn} {r:Rn} {k:Int} {X:Nat→Prop} {W:World} {g c:Nat} (z:Nat) (hv:Boxed W B 28 (.slice (some ⟨g,0,none⟩) (o++[r]).length c)) (hrow:W.ownsRow N 31 3 (.slice (some ⟨g,0,none⟩) (o++[r]).length c) (o++[r]).length (rncs (o++[r]))) (hnx:¬X B∧∀k,(Value.slice (some ⟨g,0,none⟩) (o++[r]).length c).ownBlock=some k→¬X k) (hbl:Below B Bw W) (hsz:N≤W.heap.size) (hxb:∀k,X k→B≤k∧k<W.heap.size) (ha:Bk W (B+1) 3 #[.int .i64 k]) (hx:¬X (B+1)) (hn:N=B+3) :
    Rk M N B X W (W.setCell ⟨g,o.length*3+2,none⟩ (.int .i64 (z:Int)))∧Ru B N Bw (o++[(⟨r.c,r.a,z⟩:Rn)]).length (rncs (o++[(⟨r.c,r.a,z⟩:Rn)])) k X (W.setCell ⟨g,o.length*3+2,none⟩ (.int .i64 (z:Int))):=by
  have hg:=hrow.lt g rfl
  have hset:=own_set hrow (o.length*3+2) (.int .i64 (z:Int))
  rw[rncs_last] at hset
  have hl:(o++[r]).length=(o++[(⟨r.c,r.a,z⟩:Rn)]).length:=by simp
  have hs:(W.setCell ⟨g,o.length*3+2,none⟩ (.int .i64 (z:Int))).heap.size=W.heap.size:=by simp[World.setCell]
  obtain⟨cs,t,fr,hb,_⟩:=own_blk hrow g rfl
  rw[←hl]
  exact⟨Rk.set hb (hnx.2 g rfl) (.inl hg.1) _ _,⟨⟨_,Bk.far hv (by show B≠g;omega) _,hset,hnx⟩,hbl.setCell (p:=⟨g,o.length*3+2,none⟩) (by show B≤g;omega) _,by rw[hs];exact hsz,fun j hj=>by rw[hs];exact hxb j hj⟩,ha.far (by show B+1≠g;omega) _,hx⟩
theorem tick_all {B N M:Nat} {Bw W:World} {n:Nat} {xs:List Value} {k:Int} {X:Nat→Prop} {v:Value} (k':Int) (hv:Boxed W B 28 v) (hrow:W.ownsRow N 31 3 v n xs) (hbl:Below B Bw W) (hsz:N≤W.heap.size) (hxb:∀k,X k→B≤k∧k<W.heap.size) (ha:Bk W (B+1) 3 #[.int .i64 k]) (hx:¬X (B+1)) :
    ∀W1,W1=W.setCell ⟨B+1,0,none⟩ (.int .i64 k')→Boxed W1 B 28 v∧W1.ownsRow N 31 3 v n xs∧Below B Bw W1∧N≤W1.heap.size∧(∀k,X k→B≤k∧k<W1.heap.size)∧Bk W1 (B+1) 3 #[.int .i64 k']∧Rk M N B X W W1∧W1.heap.size=W.heap.size:=by
  rintro W1 rfl
  have hs:(W.setCell ⟨B+1,0,none⟩ (.int .i64 k')).heap.size=W.heap.size:=by simp[World.setCell]
  exact⟨Bk.far hv (by show B≠B+1;omega) _,own_far hrow (own_ne hrow ha (by decide)) _,hbl.setCell (p:=⟨B+1,0,none⟩) (Nat.le_succ B) _,by rw[hs];exact hsz,fun j hj=>by rw[hs];exact hxb j hj,by simpa using ha.set 0 (.int .i64 k'),Rk.set ha hx (.inr (by omega)) _ _,hs⟩
theorem Tryz.infoRun24:(Tryz.prog.info? 31).map (fun i=>(i.zero,i.size,i.bytes))=some (some (.agg #[.int .i64 0,.int .i64 0,.int .i64 0]),3,24):=by kernel_rfl
set_option maxHeartbeats 4000000 in
theorem runs_m (l:List UInt8) (w:World) (hl:l.length≤900) :
    Calls Tryz.prog 13 #[.string ⟨l.toArray⟩] w fun e w'=>∃v,e=.returned v∧w'.ownsRow w.heap.size 31 3 v (runsT (clsT l)).length (rncs (runsT (clsT l)))∧Below w.heap.size w w':=by
  obtain⟨i0,hi,hz0,hz1,hz2⟩:=info_parts Tryz.infoRun24
  refine(callsIn_wide (n:=5)).1 ?_
  refine callsIn_of_wp_marks Tryz.func13 rfl trivial ?_ rfl
  simp only[Tryz.ntmps13,List.size_toArray,List.length_cons,List.length_nil,Nat.reduceAdd,Nat.reduceSub,Array.replicate_succ,Array.replicate_zero,List.push_toArray,List.append_toArray,List.nil_append,List.cons_append]
  gi_wp2_with fail
  refine wpIn_wide.2 (wp_scope_straight ((wpIn_wide (n:=5)).1 ?_))
  gi_wp2_with fail
  refine wpIn_label ?_
  gi_wp2_with (
    (refine⟨trivial,?_⟩
     gi_at_call 19
     refine(callsIn_wide.2 (classes_p l _)).mono ?_
     rintro e w2 ⟨rfl,rfl⟩))
  obtain⟨W0,hW0⟩:∃W0,((w.alloc (.cells #[.slice none 0 0] 28)).alloc (.cells #[.int .i64 0] 3)).alloc (.cells #[.string ⟨l.toArray⟩] 9)=W0:=⟨_,rfl⟩
  have hs0:W0.heap.size=w.heap.size+3:=by rw[←hW0];simp
  have hb0:Below w.heap.size w W0:=by rw[←hW0];exact(((Below.refl _ w).alloc (Nat.le_refl _) _).alloc (by simp) _).alloc (by simp<;>omega) _
  have bO:Boxed W0 w.heap.size 28 (.slice none 0 0):=by rw[←hW0];exact((Boxed.new w _ _).alloc _).alloc _
  have kA:Bk W0 (w.heap.size+1) 3 #[.int .i64 0]:=by rw[←hW0];exact(bk_second w _ _ _ _).alloc _
  have kS:Bk W0 (w.heap.size+2) 9 #[.string ⟨l.toArray⟩]:=by rw[←hW0];simpa using Bk.new ((w.alloc _).alloc _) 9 _
  rw[hW0]
  clear hW0
  have hcl:=clsT_len l
  refine rangeFunc_x (by omega) (gf:=25) (lb:=#[.pointer (some ⟨w.heap.size+2,0,none⟩)]) rfl (enters_of Tryz.func25 (by kernel_rfl) rfl)
    (classes_seq W0.heap.size (w.heap.size+2) (fun k=>k<w.heap.size+2) l hl W0 kS ⟨by omega,by omega⟩ (Nat.le_refl _)) (fun h k=>h.trans k) (fun W l o o' hl h1 h2 h3=>keepX_put W l o o' hl h1 h2 h3) (Below.refl _ _) (fun _=>rfl)
    (fun X pre W=>Ru w.heap.size W0.heap.size w (runsT pre).length (rncs (runsT pre)) (pre.length:Int) X W)
    (fun _ _ _ _=>False)
    (Ru.fits (n:=fun pre:List Nat=>(runsT pre).length) (xs:=fun pre=>rncs (runsT pre)) (k:=fun pre=>(pre.length:Int)) (by omega)) (fun _ _ _ _ _ h _=>h) (fun X pre W W' row h hg hr=>Ru.ofs X (by omega) (Nat.le_refl _) () W W' row h hg hr) (fun _ _ _ _ _ _ h _ _=>h)
    ⟨⟨⟨_,bO,World.ownsRow_nil _ _ _ _,fun h=>h,fun k hk=>by simp[Value.ownBlock] at hk⟩,hb0,Nat.le_refl _,fun _ h=>h.elim⟩,kA,fun h=>h⟩
    (fun x a' W=>a'={tmps:=#[.string ⟨l.toArray⟩,undef,.pointer (some ⟨w.heap.size,0,none⟩),.pointer (some ⟨w.heap.size+1,0,none⟩),.int .i64 (x:Int),undef,.string ⟨l.toArray⟩,.func (.func 25) #[] #[.pointer (some ⟨w.heap.size+2,0,none⟩)],.int .i64 (x:Int),undef,undef,undef,undef,undef,undef,undef,undef,undef,undef,undef,undef,undef,undef,undef,undef,undef,undef,undef,undef,undef,undef,undef,undef,undef,undef,undef,undef,undef,undef,undef],defers:=[]})
    (fun x a'=>fun _ _ _ _ h _ _=>h) ?assign ?body ?done ?stop
  case assign=>
    intro l' X pre x W K hI hpx hK
    gi_wp2
    exact hK _ _ (keepsFrom_below (Below.refl _ _)) (KeepX.refl _ _ _) (fun k hk=>rfl) hI rfl
  case body=>
    rintro l' X pre x a' W hl1 hl2 hI rfl hpx
    have hlen:pre.length+1≤900:=by have:=hpx.length_le;simp at this;omega
    have hrl:=runsT_len pre
    obtain⟨K1,hK1⟩:∃K1:Int,K1=((pre++[x]).length:Int):=⟨_,rfl⟩
    have hK2:K1=(pre.length:Int)+1:=by rw[hK1];simp
    have w1':IntKind.i64.wrap ((pre.length:Int)+1)=K1:=by rw[hK2];exact IntWalk.i64_in _ (by omega)
    have w9':IntKind.i64.wrap (K1-1)=(pre.length:Int):=by rw[hK2,Int.add_sub_cancel];exact IntWalk.i64_in _ (by omega)
    obtain⟨Z,hZ⟩:∃Z:Int,Z=(x:Int):=⟨_,rfl⟩
    rw[←hZ]
    obtain⟨⟨⟨v,hv,hrow,hnx⟩,hbl,hsz,hxb⟩,ha,hx⟩:=hI
    have hc:=hv.cell
    have hf:=hv.frozen
    have ca:W.cell? ⟨w.heap.size+1,0,none⟩=some (.int .i64 (pre.length:Int)):=by rw[ha.cell];rfl
    have fa:=ha.frozen 0
    have hbxl:=Boxed.lt hv
    have halt:=ha.lt
    have hsn:=runsT_snoc pre x
    have hng:∀g,v.ownBlock=some g→w.heap.size+3≤g:=fun g h=>by have:=(hrow.lt g h).1;omega
    rcases List.eq_nil_or_concat (runsT pre) with he|⟨o,r,he⟩
    ·rw[he] at hrow hsn
     rw[addR_new (fun r h=>by cases h)] at hsn
     obtain⟨A,nn,c,rfl⟩:=own_form' hrow
     obtain rfl:nn=0:=own_len hrow
     have hrow:W.ownsRow W0.heap.size 31 3 (.slice A 0 c) 0 (rncs []):=hrow
     obtain⟨a1,a2,a3,a4,a5,a6,a7,a8⟩:=tick_all (M:=W0.heap.size) K1 hv hrow hbl hsz hxb ha hx _ rfl
     have hLs:[Value.int .i64 Z,.int .i64 (pre.length:Int),.int .i64 K1]=rncs [⟨x,pre.length,pre.length+1⟩]:=by rw[hZ,hK2];rfl
     have HP:=Lib.hid (And.intro a1 (And.intro a2 (And.intro a3 (And.intro a4 (And.intro a5 (And.intro a6 (And.intro a7 (And.intro a8 (And.intro hnx (And.intro hx (And.intro hsn (And.intro hK1 hLs))))))))))))
     clear a1 a2 a3 a4 a5 a6 a7 a8 hv hrow hnx hbl hsz hxb ha hx hsn hK1 hK2 hng he hZ hLs hpx
     gi_wp2_with (
       (gi_at_builtin
        have hrd:=rd_new (W.setCell ⟨w.heap.size+1,0,none⟩ (.int .i64 K1)) [Value.int .i64 Z,.int .i64 (pre.length:Int),.int .i64 K1] 31 3 1 rfl (by omega)
        rw[HP.out.2.2.2.2.2.2.2.1] at hrd
        refine wpListIn_append_rd _ rfl (.tmp 31) (.tmp 37) 28 rfl W0.heap.size 31 i0 _ 3 24 Tryz.underlying28 hi hz0 hz1 hz2 rfl (by decide) (.slice A 0 c) 0 (rncs []) rfl (HP.out.2.1.alloc _) (.slice (some ⟨W.heap.size,0,none⟩) 1 1) 1 (W.heap.size+1) [Value.int .i64 Z,.int .i64 (pre.length:Int),.int .i64 K1] rfl hrd (by rw[HP.out.2.2.2.2.2.2.2.2.2.2.2.2];exact one_rn _) (by unfold maxLen;omega) (by omega) (by rw[World.size_alloc,HP.out.2.2.2.2.2.2.2.1];have:=HP.out.2.2.2.1;rw[HP.out.2.2.2.2.2.2.2.1] at this;omega) ?_
        intro v6 w6 hown6 hg6 hv6
        have k6:Bk w6 w.heap.size 28 #[.slice A 0 c]:=Bk.overrow (w:=(W.setCell ⟨w.heap.size+1,0,none⟩ (.int .i64 K1)).alloc _) (Bk.alloc HP.out.1 _) (HP.out.2.1.alloc _) hg6 (by decide)
        have c6:=Boxed.cell k6
        have f6:=Boxed.frozen k6
        obtain⟨A6,n6,c6',rfl⟩:=own_form' hown6
        have H6:=Lib.hid (And.intro hown6 (And.intro hg6 hv6))
        clear hown6 hg6 hv6 k6 hrd))
     obtain⟨a1,a2,a3,a4,a5,a6,a7,a8,hnx,hx,hsn,hK1,hLs⟩:=HP.out
     obtain⟨h6,hg6,hv6⟩:=H6.out
     rw[hLs,←rncs_app] at h6
     obtain⟨b1,b2⟩:=Ru.app (M:=W0.heap.size) a1 a2 hnx a3 a4 a5 a6 hx (by omega) (Nat.le_refl _) ((Below.refl _ _).alloc (Nat.le_refl _) _) hg6 h6 hv6 hs0
     have b3:=a7.trans b1
     exact⟨b3.f,b3.x,b3.s,by show Ru _ _ _ (runsT (pre++[x])).length (rncs (runsT (pre++[x]))) ((pre++[x]).length:Int) X _;rw[hsn,←hK1];exact b2⟩
    ·rw[List.concat_eq_append] at he
     rw[he] at hrow hsn hrl
     have hM:(o++[r]).length=o.length+1:=by simp
     obtain⟨g,c,rfl⟩:∃g c,v=.slice (some ⟨g,0,none⟩) (o.length+1) c:=by rw[hM] at hrow;exact own_some hrow
     have hg3:=hng g rfl
     have n1:¬g=w.heap.size:=by omega
     have n2:¬g=w.heap.size+1:=by omega
     have hgl:=(hrow.lt g rfl).2
     have z0:W.cell? ⟨g,o.length*3,none⟩=some (.int .i64 (r.c:Int)):=own_cell (by rw[hM] at hrow;exact hrow) _ _ (by rw[rncs_app,List.getElem?_append_right (by rw[rncs_len];omega),rncs_len,Nat.sub_self];rfl)
     obtain⟨Y,hYY⟩:∃Y:Int,Y=(r.c:Int):=⟨_,rfl⟩
     rw[←hYY] at z0
     have w2':IntKind.i64.wrap (o.length:Int)=(o.length:Int):=IntWalk.i64_in _ (by omega)
     have u3:(o.length:Int)<(o.length:Int)+1:=by omega
     by_cases hrc:r.c=x
     ·obtain rfl:Y=Z:=by omega
      have z2:W.cell? ⟨g,o.length*3+2,none⟩=some (.int .i64 (r.b:Int)):=own_cell (by rw[hM] at hrow;exact hrow) _ _ (by rw[rncs_app,List.getElem?_append_right (by rw[rncs_len];omega),rncs_len,Nat.add_sub_cancel_left];rfl)
      have f0:W.frozen? ⟨g,o.length*3+2,none⟩=false:=own_frozen (by rw[hM] at hrow;exact hrow) _
      have HP:=Lib.hid (And.intro hv (And.intro hrow (And.intro hnx (And.intro hbl (And.intro hsz (And.intro hxb (And.intro ha (And.intro hx (And.intro hsn (And.intro hrc hK1))))))))))
      clear hv hrow hnx hbl hsz hxb ha hx hsn hrc hK1 hK2 hng he hYY hZ hM hpx
      gi_wp2_with fail
      obtain⟨hv,hrow,hnx,hbl,hsz,hxb,ha,hx,hsn,hrc,hK1⟩:=HP.out
      have hM:(o++[r]).length=o.length+1:=by simp
      obtain⟨a1,a2,a3,a4,a5,a6,a7,a8⟩:=tick_all (M:=W0.heap.size) K1 hv hrow hbl hsz hxb ha hx _ rfl
      generalize W.setCell ⟨w.heap.size+1,0,none⟩ (.int .i64 K1)=W1 at a1 a2 a3 a4 a5 a6 a7 a8 ⊢
      rw[←hM] at a1 a2
      rw[addR_same hrc] at hsn
      have hK9:K1=((pre.length+1:Nat):Int):=by rw[hK1];simp
      obtain⟨b1,b2⟩:=Ru.grow (M:=W0.heap.size) (pre.length+1) a1 a2 (by rw[hM];exact hnx) a3 a4 a5 a6 hx hs0
      rw[←hK9] at b1 b2
      have b3:=a7.trans b1
      exact⟨b3.f,b3.x,b3.s,by show Ru _ _ _ (runsT (pre++[x])).length (rncs (runsT (pre++[x]))) ((pre++[x]).length:Int) X _;rw[hsn,←hK1];exact b2⟩
     ·have t1:(Y==Z)=false:=beq_false_of_ne (by omega)
      rw[addR_new (fun r' h=>by rw[List.getLast?_concat] at h;cases h;exact hrc)] at hsn
      rw[hM] at hrow
      have hol:o.length+1≤900:=by omega
      clear hYY hrc hM
      obtain⟨a1,a2,a3,a4,a5,a6,a7,a8⟩:=tick_all (M:=W0.heap.size) K1 hv hrow hbl hsz hxb ha hx _ rfl
      have hLs:[Value.int .i64 Z,.int .i64 (pre.length:Int),.int .i64 K1]=rncs [⟨x,pre.length,pre.length+1⟩]:=by rw[hZ,hK2];rfl
      have HP:=Lib.hid (And.intro a1 (And.intro a2 (And.intro a3 (And.intro a4 (And.intro a5 (And.intro a6 (And.intro a7 (And.intro a8 (And.intro hnx (And.intro hx (And.intro hsn (And.intro hK1 hLs))))))))))))
      clear a1 a2 a3 a4 a5 a6 a7 a8 hv hrow hnx hbl hsz hxb ha hx hsn hK1 hK2 hng he hZ hLs hpx
      gi_wp2_with (
        (gi_at_builtin
         have hrd:=rd_new (W.setCell ⟨w.heap.size+1,0,none⟩ (.int .i64 K1)) [Value.int .i64 Z,.int .i64 (pre.length:Int),.int .i64 K1] 31 3 1 rfl (by omega)
         rw[HP.out.2.2.2.2.2.2.2.1] at hrd
         refine wpListIn_append_rd _ rfl (.tmp 31) (.tmp 37) 28 rfl W0.heap.size 31 i0 _ 3 24 Tryz.underlying28 hi hz0 hz1 hz2 rfl (by decide) (.slice (some ⟨g,0,none⟩) (o.length+1) c) (o.length+1) (rncs (o++[r])) rfl (HP.out.2.1.alloc _) (.slice (some ⟨W.heap.size,0,none⟩) 1 1) 1 (W.heap.size+1) [Value.int .i64 Z,.int .i64 (pre.length:Int),.int .i64 K1] rfl hrd (by rw[HP.out.2.2.2.2.2.2.2.2.2.2.2.2];exact one_rn _) (by unfold maxLen;omega) (by omega) (by rw[World.size_alloc,HP.out.2.2.2.2.2.2.2.1];have:=HP.out.2.2.2.1;rw[HP.out.2.2.2.2.2.2.2.1] at this;omega) ?_
         intro v6 w6 hown6 hg6 hv6
         have k6:Bk w6 w.heap.size 28 #[.slice (some ⟨g,0,none⟩) (o.length+1) c]:=Bk.overrow (w:=(W.setCell ⟨w.heap.size+1,0,none⟩ (.int .i64 K1)).alloc _) (Bk.alloc HP.out.1 _) (HP.out.2.1.alloc _) hg6 (by decide)
         have c6:=Boxed.cell k6
         have f6:=Boxed.frozen k6
         obtain⟨A6,n6,c6',rfl⟩:=own_form' hown6
         have H6:=Lib.hid (And.intro hown6 (And.intro hg6 hv6))
         clear hown6 hg6 hv6 k6 hrd))
      obtain⟨a1,a2,a3,a4,a5,a6,a7,a8,hnx,hx,hsn,hK1,hLs⟩:=HP.out
      obtain⟨h6,hg6,hv6⟩:=H6.out
      rw[hLs,←rncs_app] at h6
      obtain⟨b1,b2⟩:=Ru.app (M:=W0.heap.size) a1 a2 hnx a3 a4 a5 a6 hx (by omega) (Nat.le_refl _) ((Below.refl _ _).alloc (Nat.le_refl _) _) hg6 h6 hv6 hs0
      have b3:=a7.trans b1
      exact⟨b3.f,b3.x,b3.s,by show Ru _ _ _ (runsT (pre++[x])).length (rncs (runsT (pre++[x]))) ((pre++[x]).length:Int) X _;rw[hsn,←hK1,show ((o++[r])++[(⟨x,pre.length,pre.length+1⟩:Rn)]).length=(o.length+1)+1 by simp];exact b2⟩
  case done=>
    rintro D X ys W hD hys ⟨⟨⟨v,hv,hrow,hnx⟩,hB,hS,hxb⟩,ha,hx⟩ hK
    have hc:=hv.cell
    have hf:=hv.frozen
    have hv2:=hv.set v
    have hrow2:=hrow.kept (grownBy_setCell' W w.heap.size v) (.inr (hv.not_row (by decide) hrow).symm)
    have hK2:(W.setCell ⟨w.heap.size,0,none⟩ v).heap[D]? = some (.deferred (some [])):=(Below.heap_setCell _ _ _ D (by show D≠w.heap.size;omega)).trans hK
    have hbk:=belowK_b (w:=w) (Nat.le_refl _) (W.setCell ⟨w.heap.size,0,none⟩ v) D (.deferred (some [])) (.deferred none) (by omega) hK2 rfl rfl
    have hv3:Boxed ((W.setCell ⟨w.heap.size,0,none⟩ v).putObj D (.deferred none)) w.heap.size 28 v:=(World.putObj_heap_other (by omega)).trans hv2
    have hrow3:=hrow2.kept (grownBy_putObj' (W.setCell ⟨w.heap.size,0,none⟩ v) D (.deferred none)) (.inr (fun e=>by have:=own_not_cells hrow2 e hK2;cases this))
    have hc3:=hv3.cell
    obtain⟨A,n,c,rfl⟩:=own_form' hrow
    have HD:=Lib.hid (And.intro (hB.setCell (p:=⟨w.heap.size,0,none⟩) (Nat.le_refl _) (.slice A n c)) (And.intro hbk (And.intro hys hrow3)))
    have HK2:=Lib.hid hK2
    clear hB hbk hrow hrow2 hrow3 hys hv2 hv3 hK hK2 ha hx hxb hnx
    gi_wp2_with fail
    rw[Exit.noGoto_ret]
    refine⟨by simp,.inl ⟨_,_,rfl,run_takeDeferred HK2.out,?_⟩⟩
    obtain⟨q1,q2,q3,q4⟩:=HD.out
    rw[q3] at q4
    exact⟨.slice A n c,by simp[results,Tryz.results13,go_sem,hc3],⟨_,rfl,own_base q4 (by omega),q1.trans q2⟩⟩
  case stop=>
    intro D c X pre W _ _ h _
    exact h.elim
end Go.Proofs.YtgdifhhioahakaaGreatDoor
