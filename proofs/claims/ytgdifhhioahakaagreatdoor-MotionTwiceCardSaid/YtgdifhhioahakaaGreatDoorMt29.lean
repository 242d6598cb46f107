/- Motion: Mate: a place's mate. -/
import Derived.Test.YtgdifhhioahakaaGreatDoorPr29
import Derived.Test.YtgdifhhioahakaaGreatDoorIt29
namespace Go.Proofs.YtgdifhhioahakaaGreatDoor
open Go.RowKit
set_option linter.unusedVariables false
set_option linter.unusedSimpArgs false
set_option maxRecDepth 100000
attribute [local go_sem] Oper.semAt_some
def mateR (N:List (Int×Int)) (a:Int):Option Int:=match N.find? fun p=>a==p.1||a==p.2 with|some p=>some (if a=p.1 then p.2 else p.1)|none=>none
theorem mateR_hit {pre:List (Int×Int)} {p:Int×Int} {N:List (Int×Int)} {a:Int} (hN:pre++[p]<+:N) (hno:∀q∈pre,a≠q.1∧a≠q.2) (hp:a=p.1∨a=p.2):mateR N a=some (if a=p.1 then p.2 else p.1):=by
  obtain⟨r,rfl⟩:=hN
  unfold mateR
  have h1:pre.find? (fun p=>a==p.1||a==p.2)=none:=by
    rw[List.find?_eq_none]
    intro q hq
    have:=hno q hq
    simp[this.1,this.2]
  rw[List.find?_append,List.find?_append,h1]
  have h2:(a==p.1||a==p.2)=true:=by rcases hp with h|h<;>simp[h]
  simp[h2]
theorem mateR_no {N:List (Int×Int)} {a:Int} (hno:∀q∈N,a≠q.1∧a≠q.2):mateR N a=none:=by
  unfold mateR
  have h1:N.find? (fun p=>a==p.1||a==p.2)=none:=by
    rw[List.find?_eq_none]
    intro q hq
    have:=hno q hq
    simp[this.1,this.2]
  rw[h1]
theorem pairs_p (l:List UInt8) (w:World) :
    Calls Tryz.prog 20 #[.string ⟨l.toArray⟩] w fun e w'=>e=.returned (.func (.func 33) #[] #[.pointer (some ⟨w.heap.size,0,none⟩)])∧w'=w.alloc (.cells #[.string ⟨l.toArray⟩] 9):=by
  go_enter Tryz.func20,Tryz.ntmps20
  go_wp2
  go_ret
  exact⟨rfl,rfl⟩
theorem pairs_seq (l:List UInt8) (hok:PairOk (lvs3 l) (parseT (lvs3 l)).l) (hl:l.length≤900) (Bn n₀:Nat) (Xc:Nat→Prop) (W0:World) (hBn:Bk W0 Bn 9 #[.string ⟨l.toArray⟩]) (hn:n₀≤W0.heap.size) :
    SeqX Tryz.prog 33 #[.pointer (some ⟨Bn,0,none⟩)] encQ (KeepX n₀ Xc) (fun xs=>xs=prL l) (fun _=>True) (prL l) W0:=by
  intro n l' J Jx W hW hF _ hY hJ
  exact pairs_in n l' Bn n₀ Xc l hok J Jx hF hY hl W (hBn.below hW hBn.lt) (Nat.le_trans hn hW.size) hJ
structure M29 (B N:Nat) (Bw:World) (at_ nv:Int) (ok:Bool) (X:Nat→Prop) (W:World):Prop where
  a:Bk W B 3 #[.int .i64 at_]
  n:Bk W (B+1) 3 #[.int .i64 nv]
  k:Bk W (B+2) 4 #[.bool ok]
  x:∀k,X k→N≤k∧k<W.heap.size
  bl:Below B Bw W
  sz:N≤W.heap.size
theorem M29.xg {B N:Nat} {Bw:World} {at_ nv:Int} {ok:Bool} {X:Nat→Prop} {A C:World} (hN:B+3≤N) (h:M29 B N Bw at_ nv ok X A) (hx:XG X A C):M29 B N Bw at_ nv ok (xNew X A C) C:=by
  have hb:∀k,k<B+3→k<A.heap.size→C.heap[k]? = A.heap[k]? := fun k h1 h2=>hx.block k h2 fun hX=>by have:=(h.x k hX).1;omega
  refine⟨(hb _ (by omega) h.a.lt).trans h.a,(hb _ (by omega) h.n.lt).trans h.n,(hb _ (by omega) h.k.lt).trans h.k,fun k hk=>?_,⟨hx.os.trans h.bl.1,hx.tape.trans h.bl.2,hx.output.trans h.bl.3,Nat.le_trans h.bl.size hx.size,fun k hk=>?_⟩,Nat.le_trans h.sz hx.size⟩
  ·rcases hk with hk|hk
   ·have:=h.x k hk;have:=hx.size;omega
   ·have:=h.sz;omega
  ·have:=h.sz
   exact(hb k (by omega) (by omega)).trans (h.bl.block k hk)
theorem M29.own {B N M:Nat} {Bw:World} {at_ nv:Int} {ok:Bool} (X:Nat→Prop) (hB:B≤M) (hB2:B≤Bw.heap.size):OwnFrom M (fun (_:Unit) W=>M29 B N Bw at_ nv ok X W):=by
  rintro s W W' row h hg hr
  have hk:∀(b:Nat) (t:TypeId) (cs:Array Value),Bk W b t cs→Bk W' b t cs:=fun b t cs hb=>hb.grown hg (fun e=>by
    obtain⟨_,o,ho,hc⟩:=hr _ e.symm
    rw[show W.heap[b]? = _ from hb] at ho
    cases ho
    cases hc)
  exact⟨hk _ _ _ h.a,hk _ _ _ h.n,hk _ _ _ h.k,fun k hx=>⟨(h.x k hx).1,Nat.lt_of_lt_of_le (h.x k hx).2 hg.size⟩,ownFrom_below (β:=Unit) (w₀:=Bw) (n₀:=B) hB2 hB () W W' row h.bl hg hr,Nat.le_trans h.sz hg.size⟩
theorem kf_set {M:Nat} {W:World} {g:Nat} {t:TypeId} {cs:Array Value} {fr:Nat×Nat} (hb:W.heap[g]? = some (.cells cs t fr)) (o:Nat) (v:Value):KeepsFrom M W (W.setCell ⟨g,o,none⟩ v):=by
  refine⟨by simp[World.setCell],fun k ob _ hk hc=>?_⟩
  refine(Below.heap_setCell _ _ _ k (fun e=>?_)).trans hk
  have e':k=g:=e
  subst e'
  rw[hb] at hk
  cases hk
  cases hc
theorem M29.put {B N M:Nat} {Bw:World} {at_ nv:Int} {ok:Bool} {X:Nat→Prop} {W:World} (hN:B+3≤N) (h:M29 B N Bw at_ nv ok X W) (v:Int) :
    KeepsFrom M W ((W.setCell ⟨B+1,0,none⟩ (.int .i64 v)).setCell ⟨B+2,0,none⟩ (.bool true))∧KeepX N (fun k=>k<B+3) W ((W.setCell ⟨B+1,0,none⟩ (.int .i64 v)).setCell ⟨B+2,0,none⟩ (.bool true))∧(∀k,X k→((W.setCell ⟨B+1,0,none⟩ (.int .i64 v)).setCell ⟨B+2,0,none⟩ (.bool true)).heap[k]? = W.heap[k]?)∧M29 B N Bw at_ v true X ((W.setCell ⟨B+1,0,none⟩ (.int .i64 v)).setCell ⟨B+2,0,none⟩ (.bool true)):=by
  have k1:Bk (W.setCell ⟨B+1,0,none⟩ (.int .i64 v)) (B+1) 3 #[.int .i64 v]:=by simpa using h.n.set 0 (.int .i64 v)
  have k2:Bk (W.setCell ⟨B+1,0,none⟩ (.int .i64 v)) (B+2) 4 #[.bool ok]:=h.k.far (by show B+2≠B+1;omega) _
  have k0:Bk (W.setCell ⟨B+1,0,none⟩ (.int .i64 v)) B 3 #[.int .i64 at_]:=h.a.far (by show B≠B+1;omega) _
  have hs:((W.setCell ⟨B+1,0,none⟩ (.int .i64 v)).setCell ⟨B+2,0,none⟩ (.bool true)).heap.size=W.heap.size:=by simp[World.setCell]
  have f1:KeepsFrom M W (W.setCell ⟨B+1,0,none⟩ (.int .i64 v)):=kf_set h.n 0 _
  have f2:KeepsFrom M (W.setCell ⟨B+1,0,none⟩ (.int .i64 v)) ((W.setCell ⟨B+1,0,none⟩ (.int .i64 v)).setCell ⟨B+2,0,none⟩ (.bool true)):=kf_set k2 0 _
  refine⟨⟨Nat.le_trans f1.size f2.size,fun k o hM ho hc=>f2.same k o hM (f1.same k o hM ho hc) hc⟩,((KeepX.refl _ _ _).set (.inr (by show B+1<B+3;omega)) 0 _).trans ((KeepX.refl _ _ _).set (.inr (by show B+2<B+3;omega)) 0 _),fun k hk=>?_,k0.far (by show B≠B+2;omega) _,k1.far (by show B+1≠B+2;omega) _,by simpa using k2.set 0 (.bool true),fun k hk=>by rw[hs];exact h.x k hk,(h.bl.setCell (p:=⟨B+1,0,none⟩) (by show B≤B+1;omega) _).setCell (p:=⟨B+2,0,none⟩) (by show B≤B+2;omega) _,by rw[hs];exact h.sz⟩
  have hk2:=(h.x k hk).1
  exact(Below.heap_setCell _ _ _ k (by show k≠B+2;omega)).trans (Below.heap_setCell _ _ _ k (by show k≠B+1;omega))
set_option maxHeartbeats 4000000 in
theorem Mate_m (l:List UInt8) (hok:PairOk (lvs3 l) (parseT (lvs3 l)).l) (hl:l.length≤900) (a:Int) (w:World) :
    Calls Tryz.prog 15 #[.string ⟨l.toArray⟩,.int .i64 a] w fun e w'=>e=.returned (.tuple #[.int .i64 ((mateR (prL l) a).getD 0),.bool (mateR (prL l) a).isSome])∧Below w.heap.size w w':=by
  refine(callsIn_wide (n:=5)).1 ?_
  refine callsIn_of_wp_marks Tryz.func15 rfl trivial ?_ rfl
  simp only[Tryz.ntmps15,List.size_toArray,List.length_cons,List.length_nil,Nat.reduceAdd,Nat.reduceSub,Array.replicate_succ,Array.replicate_zero,List.push_toArray,List.append_toArray,List.nil_append,List.cons_append]
  gi_wp2_with (
    (refine⟨trivial,?_⟩
     gi_at_call 20
     refine(callsIn_wide.2 (pairs_p l _)).mono ?_
     rintro e w2 ⟨rfl,rfl⟩))
  obtain⟨W0,hW0⟩:∃W0,(((w.alloc (.cells #[.int .i64 a] 3)).alloc (.cells #[.int .i64 0] 3)).alloc (.cells #[.bool false] 4)).alloc (.cells #[.string ⟨l.toArray⟩] 9)=W0:=⟨_,rfl⟩
  have hs0:W0.heap.size=w.heap.size+4:=by rw[←hW0];simp
  have hb0:Below w.heap.size w W0:=by rw[←hW0];exact((((Below.refl _ w).alloc (Nat.le_refl _) _).alloc (by simp) _).alloc (by simp<;>omega) _).alloc (by simp<;>omega) _
  have kA:Bk W0 w.heap.size 3 #[.int .i64 a]:=by rw[←hW0];exact(((Bk.new w _ _).alloc _).alloc _).alloc _
  have kN:Bk W0 (w.heap.size+1) 3 #[.int .i64 0]:=by rw[←hW0];exact((bk_second w _ _ _ _).alloc _).alloc _
  have kO:Bk W0 (w.heap.size+2) 4 #[.bool false]:=by
    rw[←hW0]
    have:=Bk.new ((w.alloc (.cells #[.int .i64 a] 3)).alloc (.cells #[.int .i64 0] 3)) 4 #[.bool false]
    rw[World.size_alloc,World.size_alloc] at this
    exact this.alloc _
  have kS:Bk W0 (w.heap.size+3) 9 #[.string ⟨l.toArray⟩]:=by
    rw[←hW0]
    have:=Bk.new (((w.alloc (.cells #[.int .i64 a] 3)).alloc (.cells #[.int .i64 0] 3)).alloc (.cells #[.bool false] 4)) 9 #[.string ⟨l.toArray⟩]
    rw[World.size_alloc,World.size_alloc,World.size_alloc] at this
    exact this
  first
    | rw[hW0]
    | (simp only[World.size_alloc] at hW0 ⊢;rw[hW0])
  clear hW0
  refine rangeFunc_x (by omega) (gf:=33) (lb:=#[.pointer (some ⟨w.heap.size+3,0,none⟩)]) rfl (enters_of Tryz.func33 (by kernel_rfl) rfl)
    (pairs_seq l hok hl (w.heap.size+3) W0.heap.size (fun k=>k<w.heap.size+3) W0 kS (Nat.le_refl _)) (fun h k=>h.trans k) (fun W l o o' hl h1 h2 h3=>keepX_put W l o o' (by omega) h1 h2 h3) (Below.refl _ _) (fun _=>rfl)
    (fun X pre W=>M29 w.heap.size W0.heap.size w a 0 false X W∧∀q∈pre,a≠q.1∧a≠q.2)
    (fun c X pre W=>c=.ret∧∃v,M29 w.heap.size W0.heap.size w a v true X W∧mateR (prL l) a=some v)
    (fun X s A C h hx=>⟨h.1.xg (by omega) hx,h.2⟩) (fun c X s A C h hx=>by obtain⟨h1,v,h2,h3⟩:=h;exact⟨h1,v,h2.xg (by omega) hx,h3⟩)
    (fun X pre W W' row h hg hr=>⟨M29.own X (by omega) (Nat.le_refl _) () W W' row h.1 hg hr,h.2⟩) (fun c X pre W W' row h hg hr=>by obtain⟨h1,v,h2,h3⟩:=h;exact⟨h1,v,M29.own X (by omega) (Nat.le_refl _) () W W' row h2 hg hr,h3⟩)
    ⟨⟨kA,kN,kO,fun k hk=>hk.elim,hb0,Nat.le_refl _⟩,fun q hq=>(by simp at hq)⟩
    (fun x a' W=>a'={tmps:=#[.string ⟨l.toArray⟩,.int .i64 a,undef,.pointer (some ⟨w.heap.size,0,none⟩),.pointer (some ⟨w.heap.size+1,0,none⟩),.pointer (some ⟨w.heap.size+2,0,none⟩),.int .i64 x.1,.int .i64 x.2,.string ⟨l.toArray⟩,.func (.func 33) #[] #[.pointer (some ⟨w.heap.size+3,0,none⟩)],.int .i64 x.1,.int .i64 x.2,undef,undef,undef,undef,undef,undef,undef,undef,undef],defers:=[]})
    (fun x a'=>fun _ _ _ _ h _ _=>h) ?assign ?body ?done ?stop
  case assign=>
    intro l' X pre x W K hI hpx hK
    gi_wp2
    exact hK _ _ (keepsFrom_below (Below.refl _ _)) (KeepX.refl _ _ _) (fun k hk=>rfl) hI rfl
  case body=>
    rintro l' X pre x a' W hl1 hl2 ⟨hI,hno⟩ rfl hpx
    have ca:W.cell? ⟨w.heap.size,0,none⟩=some (.int .i64 a):=by rw[hI.a.cell];rfl
    have cn:W.cell? ⟨w.heap.size+1,0,none⟩=some (.int .i64 0):=by rw[hI.n.cell];rfl
    have ck:W.cell? ⟨w.heap.size+2,0,none⟩=some (.bool false):=by rw[hI.k.cell];rfl
    have fn:=hI.n.frozen 0
    have fk:=hI.k.frozen 0
    have hp:=fun v=>M29.put (M:=W0.heap.size) (by omega) hI v
    have HI:=Lib.hid (And.intro hp (And.intro hI (And.intro hno hpx)))
    clear hp hI hno hpx
    obtain⟨x1,x2⟩:=x
    by_cases h1:a=x1
    ·subst h1
     gi_wp2_with fail
     have hm:=mateR_hit HI.out.2.2.2 HI.out.2.2.1 (.inl rfl)
     rw[if_pos rfl] at hm
     exact⟨(HI.out.1 x2).1,(HI.out.1 x2).2.1,(HI.out.1 x2).2.2.1,rfl,x2,(HI.out.1 x2).2.2.2,hm⟩
    ·have t1:(a==x1)=false:=beq_false_of_ne h1
     by_cases h2:a=x2
     ·subst h2
      gi_wp2_with fail
      have hm:=mateR_hit HI.out.2.2.2 HI.out.2.2.1 (.inr rfl)
      rw[if_neg h1] at hm
      exact⟨(HI.out.1 x1).1,(HI.out.1 x1).2.1,(HI.out.1 x1).2.2.1,rfl,x1,(HI.out.1 x1).2.2.2,hm⟩
     ·have t2:(a==x2)=false:=beq_false_of_ne h2
      gi_wp2_with fail
      exact⟨keepsFrom_below (Below.refl _ _),KeepX.refl _ _ _,fun k hk=>rfl,HI.out.2.1,fun q hq=>by
        rcases List.mem_append.1 hq with hq|hq
        ·exact HI.out.2.2.1 q hq
        ·rw[List.mem_singleton.1 hq];exact⟨h1,h2⟩⟩
  case done=>
    rintro D X ys W hD hys ⟨hI,hno⟩ hK
    rw[hys] at hno
    have hm:=mateR_no hno
    have hsz:=hI.sz
    have fn:=hI.n.frozen 0
    have fk:=hI.k.frozen 0
    have cn:W.cell? ⟨w.heap.size+1,0,none⟩=some (.int .i64 0):=by rw[hI.n.cell];rfl
    have ck:W.cell? ⟨w.heap.size+2,0,none⟩=some (.bool false):=by rw[hI.k.cell];rfl
    obtain⟨W2,hW2⟩:∃W2,W2=(W.setCell ⟨w.heap.size+1,0,none⟩ (.int .i64 0)).setCell ⟨w.heap.size+2,0,none⟩ (.bool false):=⟨_,rfl⟩
    have k1:Bk W2 (w.heap.size+1) 3 #[.int .i64 0]:=by
      have h:Bk (W.setCell ⟨w.heap.size+1,0,none⟩ (.int .i64 0)) (w.heap.size+1) 3 #[.int .i64 0]:=by simpa using hI.n.set 0 (.int .i64 0)
      rw[hW2];exact h.far (by show w.heap.size+1≠w.heap.size+2;omega) _
    have k2:Bk W2 (w.heap.size+2) 4 #[.bool false]:=by
      have h:Bk (W.setCell ⟨w.heap.size+1,0,none⟩ (.int .i64 0)) (w.heap.size+2) 4 #[.bool false]:=hI.k.far (by show w.heap.size+2≠w.heap.size+1;omega) _
      rw[hW2];simpa using h.set 0 (.bool false)
    have hb2:Below w.heap.size w W2:=by rw[hW2];exact(hI.bl.setCell (p:=⟨w.heap.size+1,0,none⟩) (by show w.heap.size≤w.heap.size+1;omega) _).setCell (p:=⟨w.heap.size+2,0,none⟩) (by show w.heap.size≤w.heap.size+2;omega) _
    have hK2:W2.heap[D]? = some (.deferred (some [])):=by rw[hW2];exact(Below.heap_setCell _ _ _ D (by show D≠w.heap.size+2;omega)).trans ((Below.heap_setCell _ _ _ D (by show D≠w.heap.size+1;omega)).trans hK)
    have hbk:=belowK_b (w:=w) (Nat.le_refl _) W2 D (.deferred (some [])) (.deferred none) (by omega) hK2 rfl rfl
    have k1':Bk (W2.putObj D (.deferred none)) (w.heap.size+1) 3 #[.int .i64 0]:=(World.putObj_heap_other (by omega)).trans k1
    have k2':Bk (W2.putObj D (.deferred none)) (w.heap.size+2) 4 #[.bool false]:=(World.putObj_heap_other (by omega)).trans k2
    have d1:(W2.putObj D (.deferred none)).cell? ⟨w.heap.size+1,0,none⟩=some (.int .i64 0):=by rw[k1'.cell];rfl
    have d2:(W2.putObj D (.deferred none)).cell? ⟨w.heap.size+2,0,none⟩=some (.bool false):=by rw[k2'.cell];rfl
    have HD:=Lib.hid (And.intro hb2 (And.intro hbk (And.intro hm hK2)))
    clear hb2 hbk hK hK2 hm hno hI k1 k2 k1' k2' hys
    gi_wp2_with fail
    rw[←hW2]
    refine⟨by simp,.inl ⟨_,_,rfl,run_takeDeferred HD.out.2.2.2,?_⟩⟩
    exact⟨.tuple #[.int .i64 0,.bool false],by simp[results,Tryz.results15,go_sem,d1,d2],⟨by rw[HD.out.2.2.1];rfl,HD.out.1.trans HD.out.2.1⟩⟩
  case stop=>
    rintro D c X pre W hD _ ⟨rfl,v,hI,hm⟩ hK
    have hsz:=hI.sz
    have hbk:=belowK_b (w:=w) (Nat.le_refl _) W D (.deferred (some [])) (.deferred none) (by omega) hK rfl rfl
    have k1':Bk (W.putObj D (.deferred none)) (w.heap.size+1) 3 #[.int .i64 v]:=(World.putObj_heap_other (by omega)).trans hI.n
    have k2':Bk (W.putObj D (.deferred none)) (w.heap.size+2) 4 #[.bool true]:=(World.putObj_heap_other (by omega)).trans hI.k
    have d1:(W.putObj D (.deferred none)).cell? ⟨w.heap.size+1,0,none⟩=some (.int .i64 v):=by rw[k1'.cell];rfl
    have d2:(W.putObj D (.deferred none)).cell? ⟨w.heap.size+2,0,none⟩=some (.bool true):=by rw[k2'.cell];rfl
    have HD:=Lib.hid (And.intro hI.bl (And.intro hbk (And.intro hm hK)))
    clear hbk hK hm hI k1' k2'
    gi_wp2_with fail
    refine⟨by simp,.inl ⟨_,_,rfl,run_takeDeferred HD.out.2.2.2,?_⟩⟩
    exact⟨.tuple #[.int .i64 v,.bool true],by simp[results,Tryz.results15,go_sem,d1,d2],⟨by rw[HD.out.2.2.1];rfl,HD.out.1.trans HD.out.2.1⟩⟩
end Go.Proofs.YtgdifhhioahakaaGreatDoor
