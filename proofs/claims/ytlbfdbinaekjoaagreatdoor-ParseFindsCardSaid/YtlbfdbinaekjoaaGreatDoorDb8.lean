/- literal's double: the pieces of a Double's inside, told to yield. -/
import Derived.Test.YtlbfdbinaekjoaaGreatDoorFl8
import Derived.Stop.RegionWithIn
namespace Go.Proofs.YtlbfdbinaekjoaaGreatDoor
open Go.RowKit
set_option linter.unusedVariables false
set_option linter.unusedSimpArgs false
set_option maxRecDepth 100000
attribute [local go_sem] Oper.semAt_some
structure In8 (J:(Nat→Prop)→List Pc→World→Prop) (W:World) (n₀:Nat) (Xc X:Nat→Prop) (pre:List Pc) (b:Nat) (l:List UInt8) (A:Option Addr) (c m:Nat) (here:List UInt8) (v:Value):Prop where
  j:J X pre W
  rd:Rdr W n₀ Xc b l A c m
  xn:∀k,X k→n₀≤k∧k<W.heap.size
  wn:n₀≤W.heap.size
  own:W.ownsRow n₀ 5 1 v here.length (bvals here)
  xv:∀k,v.ownBlock=some k→X k
theorem run_append_str {P:Program} (w:World) (base:Nat) (t u ty e:TypeId) (i:TypeInfo) (ht:P.underlying t=some (.slice e)) (hu:P.underlying u=some .string) (hi:P.info? e=some i) (hz:i.zero=some (.int .u8 0)) (hsize:i.size=1) (hby:i.bytes=1)
    (v:Value) (n:Nat) (xs:List Value) (hown:w.ownsRow base e 1 v n xs) (s:ByteArray) (h63:n+s.size≤maxLen) (hbytes:n+s.size≤140737488355328) (hbase:base≤w.heap.size) :
    ∃v' w',(Builtin.append_ #[t,u] ty #[v,.string s]).run P w=.ok v' w'∧w'.ownsRow base e 1 v' (n+s.size) (xs++Lib.strCells s)∧w.grownBy w' v.ownBlock∧(v'.ownBlock=v.ownBlock∨v'.ownBlock=some w.heap.size):=by
  obtain⟨v',w',hr,h2,h3,h4⟩:=Lib.run_append_own_string (P:=P) w base t u ty e i ht hu hi hz hsize hby v n xs hown s h63 hbytes hbase
  refine⟨v',w',hr,h2,h3,?_⟩
  have hsm:n+s.size≤9223372036854775807:=by unfold maxLen at h63;omega
  rcases hown.2 with ⟨rfl,rfl⟩|⟨g,cap,cur,rfl,hbg,hg,hnc,hcm,hcs,htake⟩
  ·by_cases hm:s.size=0
   ·rw[h4.2 ⟨rfl,hm⟩]
    exact .inl rfl
   ·have hr2:=run_append_nil_string (P:=P) w t u ty e i (.int .u8 0) ht hu hi hz s (by omega) (by omega) (by rw[hby];omega)
    rw[hr2] at hr
    injection hr with hv _
    rw[←hv]
    exact .inr rfl
  ·by_cases hroom:n+s.size≤cap
   ·have hr2:=Lib.run_append_room_string (P:=P) w t u ty e i ht hu hi hsize g n cap cur hg s hroom (by simp at hcs;omega)
    rw[hr2] at hr
    injection hr with hv _
    rw[←hv]
    exact .inl rfl
   ·have holds:∀j u,xs[j]? = some u→w.cell? ((⟨g,0,none⟩:Addr).add j)=some u:=hown.cells (g:=g) rfl
    have hr2:=Lib.run_append_grow_string (P:=P) w t u ty e i (.int .u8 0) ht hu hi hz ⟨g,0,none⟩ n cap xs (by rw[hsize];simpa using hown.1) holds s (by omega) (by omega) (by rw[hby];exact growslice_fits (by omega) (by omega))
    rw[hr2] at hr
    injection hr with hv _
    rw[←hv]
    exact .inr rfl
theorem wpListIn_append_str {F:Fence} {n:Nat} {P:Program} (w:World) {ops:Array Oper} {rest:List Oper} {o:Oper} {a:Act} {Q:Exit→Act→World→Prop} (hgd:o.guard=none) (s x:Operand) (t u:TypeId)
    (ho:o.op=.call {callee:=.builtin .append,args:=#[s,x],argTypes:=#[t,u]})
    (base:Nat) (e:TypeId) (i:TypeInfo) (ht:P.underlying t=some (.slice e)) (hu:P.underlying u=some .string) (hi:P.info? e=some i) (hz:i.zero=some (.int .u8 0)) (hsize:i.size=1) (hby:i.bytes=1)
    (v:Value) (k:Nat) (xs:List Value) (hs:a.eval s=v) (hown:w.ownsRow base e 1 v k xs) (y:ByteArray) (hx:a.eval x=.string y)
    (h63:k+y.size≤maxLen) (hbytes:k+y.size≤140737488355328) (hbase:base≤w.heap.size)
    (h:∀v' w',w'.ownsRow base e 1 v' (k+y.size) (xs++Lib.strCells y)→w.grownBy w' v.ownBlock→(v'.ownBlock=v.ownBlock∨v'.ownBlock=some w.heap.size)→wpListIn F n P ops Q rest (a.put o.dst v') w'):wpListIn F n P ops Q (o::rest) a w:=by
  refine wpListIn_plain hgd fun K hK=>?_
  obtain⟨v',w',hr,h2,h3,h4⟩:=run_append_str (P:=P) w base t u o.type e i ht hu hi hz hsize hby v k xs hown y h63 hbytes hbase
  unfold Oper.wpIn
  refine⟨?_,?_⟩
  ·simp[Oper.about,ho,resolve,Target.leads,Sem.run_pure]
  ·rw[Oper.semAt_plain F _ _ (by rw[ho];intro c hc';cases hc')]
   simp[execOp,ho,resolve,invoke,builtin,hs,hx,hr,Result.andThen]
   exact hK _ _ (h v' w' h2 h3 h4)
theorem wpListIn_append_rd {F:Fence} {n:Nat} {P:Program} (w:World) {ops:Array Oper} {rest:List Oper} {o:Oper} {a:Act} {Q:Exit→Act→World→Prop} (hgd:o.guard=none) (s x:Operand) (t:TypeId)
    (ho:o.op=.call {callee:=.builtin .append,args:=#[s,x],argTypes:=#[t,t]})
    (base:Nat) (e:TypeId) (i:TypeInfo) (z:Value) (size bytes:Nat) (ht:P.underlying t=some (.slice e)) (hi:P.info? e=some i) (hz:i.zero=some z)
    (hsize:i.size=size) (hby:i.bytes=bytes) (hzs:z.cells.size=size) (hsz:0<size)
    (v:Value) (k:Nat) (xs:List Value) (hs:a.eval s=v) (hown:w.ownsRow base e size v k xs)
    (y:Value) (m B:Nat) (news:List Value) (hx:a.eval x=y) (hr:Rd w B size y m news) (h1:∀u∈news,u.oneCell'=true)
    (h63:k+m≤maxLen) (hbytes:(k+m)*bytes≤140737488355328) (hbase:base≤w.heap.size)
    (h:∀v' w',w'.ownsRow base e size v' (k+m) (xs++news)→w.grownBy w' v.ownBlock→(v'.ownBlock=v.ownBlock∨v'.ownBlock=some w.heap.size)→wpListIn F n P ops Q rest (a.put o.dst v') w'):wpListIn F n P ops Q (o::rest) a w:=by
  refine wpListIn_plain hgd fun K hK=>?_
  obtain⟨v',w',hrun,h2,h3,h4⟩:=run_append_rd (P:=P) w base t o.type e i z size bytes ht hi hz hsize hby hzs hsz v k xs hown y m B news hr h1 h63 hbytes hbase
  unfold Oper.wpIn
  refine⟨?_,?_⟩
  ·simp[Oper.about,ho,resolve,Target.leads,Sem.run_pure]
  ·rw[Oper.semAt_plain F _ _ (by rw[ho];intro c hc';cases hc')]
   simp[execOp,ho,resolve,invoke,builtin,hs,hx,hrun,Result.andThen]
   exact hK _ _ (h v' w' h2 h3 h4)
theorem In8.app {J:(Nat→Prop)→List Pc→World→Prop} (hF:Fits J) {W W1 w1:World} {n₀:Nat} {Xc X:Nat→Prop} {pre:List Pc} {b:Nat} {l:List UInt8} {A:Option Addr} {c m:Nat} {here here':List UInt8} {v v':Value}
    (h:In8 J W n₀ Xc X pre b l A c m here v) (hb:Below W.heap.size W W1) (hg:W1.grownBy w1 v.ownBlock) (ho:w1.ownsRow n₀ 5 1 v' here'.length (bvals here')) (hv:v'.ownBlock=v.ownBlock∨v'.ownBlock=some W1.heap.size) :
    In8 J w1 n₀ Xc (xNew X W w1) pre b l A c m here' v'∧(∀k,X k→some k≠v.ownBlock→w1.heap[k]? = W.heap[k]?)∧KeepX n₀ Xc W w1:=by
  have hx:XG X W w1:=(XG.of_below hb).grown hg (fun k hk=>.inl (h.xv k hk))
  have hk:KeepX n₀ Xc W w1:=(KeepX.of_below hb h.wn).trans (KeepX.of_grown hg (Nat.le_trans h.wn hb.size) (fun j hj=>.inl (h.xn j (h.xv j hj)).1))
  refine⟨⟨hF _ _ _ _ h.j hx,h.rd.keep hk,fun k hk=>by
    rcases hk with hk|hk
    ·have:=h.xn k hk;have:=hx.size;omega
    ·have:=h.wn;omega,Nat.le_trans h.wn hx.size,ho,fun k hk=>?_⟩,fun k hk hne=>?_,hk⟩
  ·rcases hv with e|e
   ·exact .inl (h.xv k (by rw[←e];exact hk))
   ·have h2:=(ho.lt k hk).2
    rw[e] at hk
    injection hk with hk
    exact .inr ⟨by have:=hb.size;omega,h2⟩
  ·have hlt:=(h.xn k hk).2
   exact(hg.block k (by have:=hb.size;omega) hne).trans (hb.block k hlt)
theorem In8.below {J:(Nat→Prop)→List Pc→World→Prop} (hF:Fits J) {W W':World} {n₀:Nat} {Xc X:Nat→Prop} {pre:List Pc} {b:Nat} {l:List UInt8} {A:Option Addr} {c m:Nat} {here:List UInt8} {v:Value}
    (h:In8 J W n₀ Xc X pre b l A c m here v) (hb:Below W.heap.size W W'):In8 J W' n₀ Xc (xNew X W W') pre b l A c m here v:=
  ⟨hF _ _ _ _ h.j (XG.of_below hb),h.rd.below hb h.wn,fun k hk=>by
    rcases hk with hk|hk
    ·have:=h.xn k hk;have:=hb.size;omega
    ·have:=h.wn;omega,Nat.le_trans h.wn hb.size,own_below h.own hb,fun k hk=>.inl (h.xv k hk)⟩
theorem In8.next {J:(Nat→Prop)→List Pc→World→Prop} {W W':World} {n₀:Nat} {Xc X:Nat→Prop} {pre pre':List Pc} {b:Nat} {l:List UInt8} {A:Option Addr} {c m:Nat} {here:List UInt8} {v:Value}
    (h:In8 J W n₀ Xc X pre b l A c m here v) (hj:J X pre' W') (hk:KeepX n₀ Xc W W') (hs:∀k,X k→W'.heap[k]? = W.heap[k]?):In8 J W' n₀ Xc X pre' b l A c m here v:=by
  refine⟨hj,h.rd.keep hk,fun k hk'=>⟨(h.xn k hk').1,Nat.lt_of_lt_of_le (h.xn k hk').2 hk.size⟩,Nat.le_trans h.wn hk.size,⟨h.own.1,?_⟩,h.xv⟩
  rcases h.own.2 with h2|⟨g,cap,cur,he,hg,hh,r⟩
  ·exact .inl h2
  ·exact .inr ⟨g,cap,cur,he,hg,(hs g (h.xv g (by rw[he];rfl))).trans hh,r⟩
theorem In8.clear {J:(Nat→Prop)→List Pc→World→Prop} {W:World} {n₀:Nat} {Xc X:Nat→Prop} {pre:List Pc} {b:Nat} {l:List UInt8} {A:Option Addr} {c m:Nat} {here:List UInt8} {v:Value}
    (h:In8 J W n₀ Xc X pre b l A c m here v):In8 J W n₀ Xc X pre b l A c m [] (.slice none 0 0):=
  ⟨h.j,h.rd,h.xn,h.wn,World.ownsRow_nil _ _ _ _,by intro k hk;simp[Value.ownBlock] at hk⟩
theorem bvals_app (l r:List UInt8):bvals (l++r)=bvals l++bvals r:=by simp[bvals]
theorem escT_len (l:List UInt8) (q:Prt) (x:Nat) (h1:toN q≤l.length) (h2:toN q≤x+2):(escT l q x).length≤toN q-x:=by
  unfold escT
  split
  ·simp
  ·split
   ·simp;omega
   ·split
    ·simp
    ·rw[sub_len h1];omega
theorem str_cells (l:List UInt8):Lib.strCells ⟨l.toArray⟩=bvals l:=by unfold Lib.strCells bvals;simp
theorem YW.one {l':Nat} {N:List Pc} {n₀:Nat} {Xc:Nat→Prop} {J Jx:(Nat→Prop)→List Pc→World→Prop} (hY:YW l' N n₀ Xc J Jx) {X:Nat→Prop} {pre:List Pc} {x:Pc} {W1:World} (hj:J X pre W1) (hN:pre++[x]<+:N) (m:Nat) :
    YieldAt Fence.wide m Tryz.prog l' (encP x) W1 fun e W'=>∃bb:Bool,e=.returned (.bool bb)∧(bb=true→J X (pre++[x]) W')∧(bb=false→Jx X (pre++[x]) W')∧KeepX n₀ Xc W1 W'∧∀k,X k→W'.heap[k]? = W1.heap[k]? := by
  obtain⟨fn,tmps,assign,body,hy,hR⟩:=hY X pre x W1 hj hN m
  refine⟨fn,tmps,assign,body,hy,hR.mono ?_⟩
  rintro e W' (⟨rfl,h1,h2,h3⟩|⟨rfl,h1,h2,h3⟩)
  ·exact⟨true,rfl,fun _=>h1,fun h=>(by cases h),h2,h3⟩
  ·exact⟨false,rfl,fun h=>(by cases h),fun _=>h1,h2,h3⟩
structure D8 (J:(Nat→Prop)→List Pc→World→Prop) (W wr:World) (n₀:Nat) (Xc X X':Nat→Prop) (pr:List Pc) (b:Nat) (l:List UInt8) (A:Option Addr) (c m:Nat) (here:List UInt8) (v:Value):Prop where
  i:In8 J wr n₀ Xc X' pr b l A c m here v
  xx:∀k,X k→X' k
  sm:∀k,X k→wr.heap[k]? = W.heap[k]?
  vx:∀k,v.ownBlock=some k→¬X k
  kx:KeepX n₀ Xc W wr
  xl:∀k,X k→k<W.heap.size
section
variable {J:(Nat→Prop)→List Pc→World→Prop} {W wr:World} {n₀:Nat} {Xc X X':Nat→Prop} {pr:List Pc} {b:Nat} {l:List UInt8} {A:Option Addr} {c m:Nat} {here:List UInt8} {v:Value}
theorem D8.below (hF:Fits J) (h:D8 J W wr n₀ Xc X X' pr b l A c m here v) {w':World} (hb:Below wr.heap.size wr w'):D8 J W w' n₀ Xc X (xNew X' wr w') pr b l A c m here v:=
  ⟨h.i.below hF hb,fun k hk=>.inl (h.xx k hk),fun k hk=>(hb.block k (h.i.xn k (h.xx k hk)).2).trans (h.sm k hk),h.vx,h.kx.trans (KeepX.of_below hb h.i.wn),h.xl⟩
theorem D8.app (hF:Fits J) (h:D8 J W wr n₀ Xc X X' pr b l A c m here v) {W1 w1:World} {here':List UInt8} {v':Value} (hb:Below wr.heap.size wr W1) (hg:W1.grownBy w1 v.ownBlock) (ho:w1.ownsRow n₀ 5 1 v' here'.length (bvals here')) (hv:v'.ownBlock=v.ownBlock∨v'.ownBlock=some W1.heap.size) :
    D8 J W w1 n₀ Xc X (xNew X' wr w1) pr b l A c m here' v':=by
  obtain⟨h1,h2,h3⟩:=h.i.app hF hb hg ho hv
  refine⟨h1,fun k hk=>.inl (h.xx k hk),fun k hk=>(h2 k (h.xx k hk) (fun e=>h.vx k e.symm hk)).trans (h.sm k hk),fun k hk hX=>?_,h.kx.trans h3,h.xl⟩
  rcases hv with e|e
  ·exact h.vx k (by rw[←e];exact hk) hX
  ·rw[e] at hk
   injection hk with hk
   have h4:=h.xl k hX
   have h5:=h.kx.size
   have h6:=hb.size
   omega
theorem D8.next (h:D8 J W wr n₀ Xc X X' pr b l A c m here v) {w':World} {pr':List Pc} (hj:J X' pr' w') (hk:KeepX n₀ Xc wr w') (hs:∀k,X' k→w'.heap[k]? = wr.heap[k]?):D8 J W w' n₀ Xc X X' pr' b l A c m here v:=
  ⟨h.i.next hj hk hs,h.xx,fun k hk'=>(hs k (h.xx k hk')).trans (h.sm k hk'),h.vx,h.kx.trans hk,h.xl⟩
theorem D8.clear (h:D8 J W wr n₀ Xc X X' pr b l A c m here v):D8 J W wr n₀ Xc X X' pr b l A c m [] (.slice none 0 0):=
  ⟨h.i.clear,h.xx,h.sm,by intro k hk;simp[Value.ownBlock] at hk,h.kx,h.xl⟩
end
set_option maxHeartbeats 8000000 in
theorem double_in (n l':Nat) (N:List Pc) (n₀ b c m:Nat) (Xc X:Nat→Prop) (l:List UInt8) (A:Option Addr) (J Jx:(Nat→Prop)→List Pc→World→Prop) (hF:Fits J) (hY:YW l' N n₀ Xc J Jx) (hl:l.length≤900) (W:World) (pre:List Pc) (u:Int) (x t:Nat) (o:Bool)
    (h:In8 J W n₀ Xc X pre b l A c m [] (.slice none 0 0)) (hx:x<t) (ht:t≤l.length) (ho:o=false→x+2≤t) (R:List Pc) (hR:R=pre++dblF l (partsL l) (endN t o) (l.length+1) (x+1) [] false) (hN:R<+:N) :
    CallsIn Fence.wide n Tryz.prog 139 #[.pointer (some ⟨b,0,none⟩),.agg #[.int .i64 5,.int .i64 (x:Int),.int .i64 (t:Int),.int .i64 u,.bool o],.func (.yield l') #[] #[]] W fun e W'=>
      (e=.returned (.bool true)∧∃X',(∀k,X k→X' k)∧(∀k,X k→W'.heap[k]? = W.heap[k]?)∧KeepX n₀ Xc W W'∧In8 J W' n₀ Xc X' R b l A c m [] (.slice none 0 0)) ∨
      (e=.returned (.bool false)∧∃X' ys,ys<+:R∧Jx X' ys W'):=by
  obtain⟨hb1,hb2⟩:=endN_bd hx ho
  obtain⟨E,hE⟩:∃E,E=endN t o:=⟨_,rfl⟩
  rw[←hE] at hb1 hb2 hR
  obtain⟨i0,hi0,hz0,hz1,hz2⟩:=info_parts Tryz.infoByte
  have H:=Lib.hid (And.intro h (And.intro hY (And.intro hR (And.intro hE ho))))
  clear h hY hR hE ho
  refine callsIn_of_wp Tryz.func139 rfl trivial ?_ rfl
  simp only[Tryz.ntmps139,List.size_toArray,List.length_cons,List.length_nil,Nat.reduceAdd,Nat.reduceSub,Array.replicate_succ,Array.replicate_zero,List.push_toArray,List.append_toArray,List.nil_append,List.cons_append]
  gi_wp2_with (
    (refine⟨trivial,fun h=>by simp[Fence.wide] at h,?_⟩
     gi_at_call 158
     refine(callsIn_wide.2 (inside_45 _ (.inr rfl) hx H.out.2.2.2.2 (by omega))).mono ?_
     rintro e w2 ⟨he,hb3⟩
     rw[←H.out.2.2.2.1] at he
     subst he
     have H2:=Lib.hid (Below.trans (Below.alloc (Below.refl _ _) (Nat.le_refl _) _:Below W.heap.size W _) (hb3.mono (by simp)))
     clear hb3))
  gi_loopw [11,9,10] (fun i hv ev wr=>∃(mm y:Nat) (here:List UInt8) (ex:Bool) (pr:List Pc) (X':Nat→Prop) (v:Value),i=.int .i64 y∧hv=v∧ev=.bool ex∧x+1≤y∧y≤l.length∧l.length<mm+y∧here.length≤y∧R=pr++dblF l (partsL l) E mm y here ex∧D8 J W wr n₀ Xc X X' pr b l A c m here v) (fun i _ _ _=>E-(intOf i).toNat)
  case atStart=>
    exact⟨l.length+1,x+1,[],false,pre,_,_,by go_num,rfl,rfl,Nat.le_refl _,by omega,by omega,by simp,H.out.2.2.1,D8.below hF ⟨H.out.1,fun k hk=>hk,fun k hk=>rfl,by intro k hk;simp[Value.ownBlock] at hk,KeepX.refl _ _ _,fun k hk=>(H.out.1.xn k hk).2⟩ H2.out⟩
  case round=>
    obtain⟨mm,y,here,ex,pr,X',v,rfl,rfl,rfl,hy1,hy2,hmm,hhl,hRR,hin⟩:=hrel
    by_cases hyE:y<E
    ·obtain⟨mm,rfl⟩:∃m',mm=m'+1:=⟨mm-1,by omega⟩
     have u1:(y:Int)<(E:Int):=by omega
     have u2:(0:Int)≤(y:Int):=by omega
     have u3:(y:Int)<(l.length:Int):=by omega
     obtain⟨A1,n1,c1,hv⟩:=own_form' hin.i.own
     subst hv
     have hn1:=own_len hin.i.own
     subst hn1
     obtain⟨d,hd⟩:∃d,l[y]? = some d:=⟨_,List.getElem?_eq_getElem (by omega)⟩
     have hgd:l.getD y 0=d:=by rw[List.getD_eq_getElem?_getD,hd];rfl
     obtain⟨hL1,hL2⟩:=List.getElem?_eq_some_iff.1 hd
     have hL:∃h:y<(ByteArray.mk l.toArray).size,(ByteArray.mk l.toArray)[y]'h=d:=⟨hL1,hL2⟩
     obtain⟨hL3,hL4⟩:=hL
     clear hL2 hd
     unfold dblF at hRR
     rw[if_pos hyE] at hRR
     cases hf:findP (partsL l) y with
     | none=>
       rw[hf] at hRR
       simp only at hRR
       rw[hgd] at hRR
       have HR:=Lib.hid (And.intro hRR (And.intro hin hf))
       clear hRR hin hf hgd
       gi_wp2_with (first
         | (refine⟨trivial,fun h=>by simp[Fence.wide] at h,?_⟩
            gi_at_call 136
            refine(callsIn_wide.2 (at_n _ n₀ b c m y Xc l A hl (by omega) HR.out.2.1.i.rd HR.out.2.1.i.wn)).mono ?_
            rintro e w3 ⟨he,hb3⟩
            rw[HR.out.2.2] at he
            simp only[atN] at he
            subst he
            have hin3:=HR.out.2.1.below hF (hb3.trans ((Below.alloc (Below.refl _ w3) (Nat.le_refl _) (.cells #[.int .i64 0,.int .i64 0,.int .i64 0,.int .i64 0,.bool false] 149)).mono hb3.size))
            have z0:=hin3.i.rd.hd.cell 0
            simp only[List.getElem?_toArray,List.getElem?_cons_zero] at z0
            have H3:=Lib.hid (And.intro hb3 hin3)
            clear hb3 hin3)
         | (refine⟨trivial,?_⟩)
         | (gi_at_builtin
            have hrd:=rd_new (w3.alloc (.cells #[.int .i64 0,.int .i64 0,.int .i64 0,.int .i64 0,.bool false] 149)) (bvals [d]) 5 1 1 rfl (by omega)
            rw[World.size_alloc] at hrd
            have hwn:=H3.out.2.i.wn
            rw[World.size_alloc] at hwn
            refine wpListIn_append_rd _ rfl (.tmp 62) (.tmp 69) 111 rfl n₀ 5 i0 _ 1 1 Tryz.underlying111 hi0 hz0 hz1 hz2 rfl (by decide) (.slice A1 here.length c1) here.length (bvals here) rfl (H3.out.2.i.own.alloc _) (.slice (some ⟨w3.heap.size+1,0,none⟩) 1 1) 1 (w3.heap.size+1+1) (bvals [d]) rfl hrd (one_bytes _) (by unfold maxLen;omega) (by omega) (by rw[World.size_alloc,World.size_alloc];omega) ?_
            intro v6 w6 hown6 hg6 hv6
            have happ:=H3.out.2.app (here':=here++[d]) hF (Below.alloc (Below.refl _ _) (Nat.le_refl _) _) hg6 (by rw[List.length_append,bvals_snoc];exact hown6) hv6
            have H6:=Lib.hid happ
            clear hown6 hg6 hv6 happ hrd hwn))
       exact⟨⟨mm,y+1,here++[d],ex,pr,_,v6,by go_num,rfl,rfl,by omega,by omega,by omega,by simp;omega,HR.out.1,H6.out⟩,by simp[intOf];omega⟩
     | some q=>
       rw[hf] at hRR
       simp only at hRR
       rw[hgd] at hRR
       obtain⟨_,hq1,hq2,hq3,hq4,hq5,hq6,hq7⟩:=findP_some (pl_parts l) hf
       clear hq1 hq2
       by_cases hlone:loneB q y=true
       ·rw[if_pos hlone] at hRR
        have HR:=Lib.hid (And.intro hRR (And.intro hin (And.intro hf (show decide (q.mode=12∧toN q=y+1)=true from hlone))))
        clear hRR hin hf hgd hlone hq5 hq6 hq7
        gi_wp2_with (first
          | (refine⟨trivial,fun h=>by simp[Fence.wide] at h,?_⟩
             gi_at_call 136
             refine(callsIn_wide.2 (at_n _ n₀ b c m y Xc l A hl (by omega) HR.out.2.1.i.rd HR.out.2.1.i.wn)).mono ?_
             rintro e w3 ⟨he,hb3⟩
             rw[HR.out.2.2.1] at he
             simp only[atN] at he
             subst he
             have hin3:=HR.out.2.1.below hF (hb3.trans ((Below.alloc (Below.refl _ w3) (Nat.le_refl _) (.cells #[.int .i64 q.mode,.int .i64 (y:Int),.int .i64 (toN q:Int),.int .i64 q.up,.bool q.op] 149)).mono hb3.size))
             have hbk3:=Bk.new w3 149 #[.int .i64 q.mode,.int .i64 (y:Int),.int .i64 (toN q:Int),.int .i64 q.up,.bool q.op]
             obtain⟨p0,p1,p2,p3,p4⟩:=five_of hbk3
             have H3:=Lib.hid (And.intro hb3 (And.intro hin3 hbk3))
             clear hb3 hin3 hbk3)
          | (refine⟨trivial,fun h=>by simp[Fence.wide] at h,?_⟩
             gi_at_call 137
             refine(callsIn_wide.2 (lone_n q.mode q.up y (toN q) q.op _ (by omega) (by omega))).mono ?_
             rintro e w4 ⟨he,hb4⟩
             rw[HR.out.2.2.2] at he
             subst he
             have hin4:=H3.out.2.1.below hF hb4
             have hbk4:=H3.out.2.2.below hb4 H3.out.2.2.lt
             obtain⟨q0,q1,q2,q3,q4⟩:=five_of hbk4
             have z0:=hin4.i.rd.hd.cell 0
             simp only[List.getElem?_toArray,List.getElem?_cons_zero] at z0
             have hw4:w3.heap.size<w4.heap.size:=hbk4.lt
             have H4:=Lib.hid (And.intro hb4 (And.intro hin4 hbk4))
             clear hb4 hin4 hbk4)
          | (gi_at_builtin
             have hrd:=rd_new w4 (bvals [d]) 5 1 1 rfl (by omega)
             have hwn:=H4.out.2.1.i.wn
             refine wpListIn_append_rd _ rfl (.tmp 62) (.tmp 69) 111 rfl n₀ 5 i0 _ 1 1 Tryz.underlying111 hi0 hz0 hz1 hz2 rfl (by decide) (.slice A1 here.length c1) here.length (bvals here) rfl (H4.out.2.1.i.own.alloc _) (.slice (some ⟨w4.heap.size,0,none⟩) 1 1) 1 (w4.heap.size+1) (bvals [d]) rfl hrd (one_bytes _) (by unfold maxLen;omega) (by omega) (by rw[World.size_alloc];omega) ?_
             intro v6 w6 hown6 hg6 hv6
             have happ:=H4.out.2.1.app (here':=here++[d]) hF (Below.alloc (Below.refl _ _) (Nat.le_refl _) _) hg6 (by rw[List.length_append,bvals_snoc];exact hown6) hv6
             have H6:=Lib.hid happ
             clear hown6 hg6 hv6 happ hrd hwn))
        exact⟨⟨mm,y+1,here++[d],ex,pr,_,v6,by go_num,rfl,rfl,by omega,by omega,by omega,by simp;omega,HR.out.1,H6.out⟩,by simp[intOf];omega⟩
       ·rw[if_neg hlone] at hRR
        have hl2:loneB q y=false:=by simpa using hlone
        have hlone':decide (q.mode=12∧toN q=y+1)=false:=hl2
        clear hl2
        by_cases h13:q.mode=13
        ·rw[if_pos h13] at hRR
         have t13:(q.mode==13)=true:=by simpa using h13
         have hq8:=hq7 h13
         have hel:=escT_len l q y hq4 hq8
         have HR:=Lib.hid (And.intro hRR (And.intro hin (And.intro hf hlone')))
         have H13:=Lib.hid h13
         clear hRR hin hf hgd hlone hlone' hq5 hq6 hq7 h13
         gi_wp2_with (first
           | (refine⟨trivial,fun h=>by simp[Fence.wide] at h,?_⟩
              gi_at_call 136
              refine(callsIn_wide.2 (at_n _ n₀ b c m y Xc l A hl (by omega) HR.out.2.1.i.rd HR.out.2.1.i.wn)).mono ?_
              rintro e w3 ⟨he,hb3⟩
              rw[HR.out.2.2.1] at he
              simp only[atN] at he
              subst he
              have hin3:=HR.out.2.1.below hF (hb3.trans ((Below.alloc (Below.refl _ w3) (Nat.le_refl _) (.cells #[.int .i64 q.mode,.int .i64 (y:Int),.int .i64 (toN q:Int),.int .i64 q.up,.bool q.op] 149)).mono hb3.size))
              have hbk3:=Bk.new w3 149 #[.int .i64 q.mode,.int .i64 (y:Int),.int .i64 (toN q:Int),.int .i64 q.up,.bool q.op]
              obtain⟨p0,p1,p2,p3,p4⟩:=five_of hbk3
              have H3:=Lib.hid (And.intro hb3 (And.intro hin3 hbk3))
              clear hb3 hin3 hbk3)
           | (refine⟨trivial,fun h=>by simp[Fence.wide] at h,?_⟩
              gi_at_call 137
              refine(callsIn_wide.2 (lone_n q.mode q.up y (toN q) q.op _ (by omega) (by omega))).mono ?_
              rintro e w4 ⟨he,hb4⟩
              rw[HR.out.2.2.2] at he
              subst he
              have hin4:=H3.out.2.1.below hF hb4
              have hbk4:=H3.out.2.2.below hb4 H3.out.2.2.lt
              obtain⟨q0,q1,q2,q3,q4⟩:=five_of hbk4
              have z0:=hin4.i.rd.hd.cell 0
              simp only[List.getElem?_toArray,List.getElem?_cons_zero] at z0
              have hw4:w3.heap.size<w4.heap.size:=hbk4.lt
              have H4:=Lib.hid (And.intro hb4 (And.intro hin4 hbk4))
              clear hb4 hin4 hbk4)
           | (refine⟨trivial,fun h=>by simp[Fence.wide] at h,?_⟩
              gi_at_call 159
              refine(callsIn_wide.2 (escaped_n q.mode q.up y (toN q) q.op _ n₀ b c m Xc l A hl H4.out.2.1.i.rd H4.out.2.1.i.wn hq3 hq4 hq8 q rfl)).mono ?_
              rintro e w5 ⟨rfl,hb5⟩
              have hin5:=H4.out.2.1.below hF hb5
              have hbk5:=H4.out.2.2.below hb5 H4.out.2.2.lt
              have H5:=Lib.hid (And.intro hin5 hbk5)
              clear hb5 hin5 hbk5)
           | (gi_at_builtin
              have hwn:=H5.out.1.i.wn
              refine wpListIn_append_str _ rfl (.tmp 77) (.tmp 80) 111 9 rfl n₀ 5 i0 Tryz.underlying111 Tryz.underlying9 hi0 hz0 hz1 hz2 (.slice A1 here.length c1) here.length (bvals here) rfl H5.out.1.i.own ⟨(escT l q y).toArray⟩ rfl (by show here.length+(escT l q y).length≤maxLen;unfold maxLen;omega) (by show here.length+(escT l q y).length≤_;omega) hwn ?_
              intro v6 w6 hown6 hg6 hv6
              have hbk6:=H5.out.2.grown hg6 (own_ne H5.out.1.i.own H5.out.2 (by decide)).symm
              obtain⟨_,_,r2,_,_⟩:=five_of hbk6
              have happ:=H5.out.1.app (here':=here++escT l q y) hF (Below.refl _ _) hg6 (by rw[List.length_append,bvals_app,←str_cells (escT l q y)];exact hown6) hv6
              have H6:=Lib.hid happ
              clear hown6 hg6 hv6 happ hwn hbk6))
         exact⟨⟨mm,toN q,here++escT l q y,ex,pr,_,v6,rfl,rfl,rfl,by omega,hq4,by omega,by simp;omega,HR.out.1,H6.out⟩,by simp[intOf];omega⟩
        ·rw[if_neg h13] at hRR
         have t13:(q.mode==13)=false:=by simpa using h13
         obtain⟨S,hS⟩:∃S,S=sub l y (toN q):=⟨_,rfl⟩
         have hext:(ByteArray.mk l.toArray).extract y (toN q)=⟨S.toArray⟩:=by rw[ba_extract,hS];rfl
         rw[←hS] at hRR
         have HS:=Lib.hid hS
         have k1:(y:Int)≤(toN q:Int):=by omega
         have k2:(toN q:Int)≤(l.length:Int):=by omega
         have HR:=Lib.hid (And.intro hRR (And.intro hin (And.intro hf hlone')))
         clear hRR hin hf hgd hlone hlone' hq5 hq6 hq7 h13 hS
         cases here with
         | nil=>
           gi_wp2_with (first
             | (refine⟨trivial,fun h=>by simp[Fence.wide] at h,?_⟩
                gi_at_call 136
                refine(callsIn_wide.2 (at_n _ n₀ b c m y Xc l A hl (by omega) HR.out.2.1.i.rd HR.out.2.1.i.wn)).mono ?_
                rintro e w3 ⟨he,hb3⟩
                rw[HR.out.2.2.1] at he
                simp only[atN] at he
                subst he
                have hin3:=HR.out.2.1.below hF (hb3.trans ((Below.alloc (Below.refl _ w3) (Nat.le_refl _) (.cells #[.int .i64 q.mode,.int .i64 (y:Int),.int .i64 (toN q:Int),.int .i64 q.up,.bool q.op] 149)).mono hb3.size))
                have hbk3:=Bk.new w3 149 #[.int .i64 q.mode,.int .i64 (y:Int),.int .i64 (toN q:Int),.int .i64 q.up,.bool q.op]
                obtain⟨p0,p1,p2,p3,p4⟩:=five_of hbk3
                have H3:=Lib.hid (And.intro hb3 (And.intro hin3 hbk3))
                clear hb3 hin3 hbk3)
             | (refine⟨trivial,fun h=>by simp[Fence.wide] at h,?_⟩
                gi_at_call 137
                refine(callsIn_wide.2 (lone_n q.mode q.up y (toN q) q.op _ (by omega) (by omega))).mono ?_
                rintro e w4 ⟨he,hb4⟩
                rw[HR.out.2.2.2] at he
                subst he
                have hin4:=H3.out.2.1.below hF hb4
                have hbk4:=H3.out.2.2.below hb4 H3.out.2.2.lt
                obtain⟨q0,q1,q2,q3,q4⟩:=five_of hbk4
                have z0:=hin4.i.rd.hd.cell 0
                simp only[List.getElem?_toArray,List.getElem?_cons_zero] at z0
                have hw4:w3.heap.size<w4.heap.size:=hbk4.lt
                have H4:=Lib.hid (And.intro hb4 (And.intro hin4 hbk4))
                clear hb4 hin4 hbk4)
             | ((with_reducible refine⟨fun f h=>?_,?_⟩);cases h))
           have hD5:=D8.below hF (H4.out.2.1) (Below.drew (Below.refl _ w4))
           have hB5:Bk (World.drew w4) w3.heap.size 149 #[.int .i64 q.mode,.int .i64 (y:Int),.int .i64 (toN q:Int),.int .i64 q.up,.bool q.op]:=H4.out.2.2.drew
           obtain⟨g0,g1,g2,_,_⟩:=five_of hB5
           have z9:=hD5.i.rd.hd.cell 0
           simp only[List.getElem?_toArray,List.getElem?_cons_zero] at z9
           obtain⟨fn,tmps,assign,body,hy,hRd⟩:=H.out.2.1.one (x:=⟨true,true,S⟩) hD5.i.j (List.IsPrefix.trans ⟨dblF l (partsL l) E mm (toN q) [] true,by rw[HR.out.1];simp[flQ]⟩ hN) (n-1)
           have hr9:=Lib.hid hRd
           have H5:=Lib.hid (And.intro hD5 hB5)
           simp only[encP] at hy
           have hy9:=Lib.hid hy
           clear hRd hy hD5 hB5
           gi_region_with (first
             | (rw[hy9.out])
             | (refine⟨fun h=>by simp[Fence.wide] at h,?_⟩
                refine hr9.out.mono ?_
                rintro e W6 ⟨bb,rfl,hj6,hjx6,hk6,hs6⟩
                have hB6:=(hs6 w3.heap.size (.inl (.inl (.inr ⟨H3.out.1.size,by rw[World.size_alloc];omega⟩)))).trans H5.out.2
                obtain⟨_,_,g6,_,_⟩:=five_of hB6
                have H6:=Lib.hid (And.intro hj6 (And.intro hjx6 (And.intro hk6 hs6)))
                clear hj6 hjx6 hk6 hs6 hB6))
           all_goals (
             cases bb
             ·gi_wp2_with fail
              refine bodyPost_ret (results_tmp rfl _ _ _) rfl ?_
              exact .inr ⟨rfl,_,_,⟨dblF l (partsL l) E mm (toN q) [] true,by rw[HR.out.1];simp[flQ]⟩,H6.out.2.1 (by first|trivial|rfl)⟩
             ·gi_wp2_with fail
              gi_region
              all_goals (
                gi_wp2_with fail
                refine⟨⟨mm,toN q,[],true,_,_,.slice none 0 0,rfl,rfl,rfl,by omega,hq4,by omega,by simp,?_,(D8.below hF (H5.out.1.next (H6.out.1 (by first|trivial|rfl)) H6.out.2.2.1 H6.out.2.2.2).clear (Below.drew (Below.refl _ _)))⟩,by simp[intOf];omega⟩
                rw[HR.out.1]
                simp[flQ]))
         | cons a r=>
           gi_wp2_with (first
             | (refine⟨trivial,fun h=>by simp[Fence.wide] at h,?_⟩
                gi_at_call 136
                refine(callsIn_wide.2 (at_n _ n₀ b c m y Xc l A hl (by omega) HR.out.2.1.i.rd HR.out.2.1.i.wn)).mono ?_
                rintro e w3 ⟨he,hb3⟩
                rw[HR.out.2.2.1] at he
                simp only[atN] at he
                subst he
                have hin3:=HR.out.2.1.below hF (hb3.trans ((Below.alloc (Below.refl _ w3) (Nat.le_refl _) (.cells #[.int .i64 q.mode,.int .i64 (y:Int),.int .i64 (toN q:Int),.int .i64 q.up,.bool q.op] 149)).mono hb3.size))
                have hbk3:=Bk.new w3 149 #[.int .i64 q.mode,.int .i64 (y:Int),.int .i64 (toN q:Int),.int .i64 q.up,.bool q.op]
                obtain⟨p0,p1,p2,p3,p4⟩:=five_of hbk3
                have H3:=Lib.hid (And.intro hb3 (And.intro hin3 hbk3))
                clear hb3 hin3 hbk3)
             | (refine⟨trivial,fun h=>by simp[Fence.wide] at h,?_⟩
                gi_at_call 137
                refine(callsIn_wide.2 (lone_n q.mode q.up y (toN q) q.op _ (by omega) (by omega))).mono ?_
                rintro e w4 ⟨he,hb4⟩
                rw[HR.out.2.2.2] at he
                subst he
                have hin4:=H3.out.2.1.below hF hb4
                have hbk4:=H3.out.2.2.below hb4 H3.out.2.2.lt
                obtain⟨q0,q1,q2,q3,q4⟩:=five_of hbk4
                have z0:=hin4.i.rd.hd.cell 0
                simp only[List.getElem?_toArray,List.getElem?_cons_zero] at z0
                have hw4:w3.heap.size<w4.heap.size:=hbk4.lt
                have hcv:=bytes_back hin4.i.own
                simp only[List.length_cons] at hcv
                have Hcv:=Lib.hid hcv
                obtain⟨fn8,tmps8,assign8,body8,hy,hRd⟩:=H.out.2.1.one (x:=⟨false,true,a::r⟩) hin4.i.j (List.IsPrefix.trans ⟨⟨true,true,S⟩::dblF l (partsL l) E mm (toN q) [] true,by rw[HR.out.1];simp[flQ]⟩ hN) (n-1)
                have hr8:=Lib.hid hRd
                simp only[encP] at hy
                have hy8:=Lib.hid hy
                clear hRd hy hcv
                have H4:=Lib.hid (And.intro hb4 (And.intro hin4 hbk4))
                clear hb4 hin4 hbk4)
             | (rw[Hcv.out])
             | (rw[hy8.out]))
           refine⟨fun h=>by simp[Fence.wide] at h,?_⟩
           refine hr8.out.mono ?_
           rintro e W5 ⟨b8,rfl,hj5,hjx5,hk5,hs5⟩
           cases b8
           ·have H8:=Lib.hid (hjx5 rfl)
            clear hj5 hjx5 hk5 hs5
            gi_wp2_with fail
            refine bodyPost_ret (results_tmp rfl _ _ _) rfl ?_
            exact .inr ⟨rfl,_,_,⟨⟨true,true,S⟩::dblF l (partsL l) E mm (toN q) [] true,by rw[HR.out.1];simp[flQ]⟩,H8.out⟩
           ·have hbk5:Bk W5 w3.heap.size 149 #[.int .i64 q.mode,.int .i64 (y:Int),.int .i64 (toN q:Int),.int .i64 q.up,.bool q.op]:=(hs5 w3.heap.size (.inl (.inr ⟨H3.out.1.size,by rw[World.size_alloc];omega⟩))).trans H4.out.2.2
            have hin5:=H4.out.2.1.next (hj5 rfl) hk5 hs5
            have hz5:=hbk5.lt
            have H8:=Lib.hid (And.intro hin5 hbk5)
            clear hj5 hjx5 hk5 hs5 hin5 hbk5
            gi_wp2_with fail
            have hD5:=D8.below hF (H8.out.1) (Below.drew (Below.refl _ W5))
            have hB5:Bk (World.drew W5) w3.heap.size 149 #[.int .i64 q.mode,.int .i64 (y:Int),.int .i64 (toN q:Int),.int .i64 q.up,.bool q.op]:=H8.out.2.drew
            obtain⟨g0,g1,g2,_,_⟩:=five_of hB5
            have z9:=hD5.i.rd.hd.cell 0
            simp only[List.getElem?_toArray,List.getElem?_cons_zero] at z9
            obtain⟨fn,tmps,assign,body,hy,hRd⟩:=H.out.2.1.one (x:=⟨true,true,S⟩) hD5.i.j (List.IsPrefix.trans ⟨dblF l (partsL l) E mm (toN q) [] true,by rw[HR.out.1];simp[flQ]⟩ hN) (n-1)
            have hr9:=Lib.hid hRd
            have H5:=Lib.hid (And.intro hD5 hB5)
            simp only[encP] at hy
            have hy9:=Lib.hid hy
            clear hRd hy hD5 hB5
            gi_region_with (first
              | (rw[hy9.out])
              | (refine⟨fun h=>by simp[Fence.wide] at h,?_⟩
                 refine hr9.out.mono ?_
                 rintro e W6 ⟨bb,rfl,hj6,hjx6,hk6,hs6⟩
                 have hB6:=(hs6 w3.heap.size (.inl (.inl (.inr ⟨H3.out.1.size,by rw[World.size_alloc];omega⟩)))).trans H5.out.2
                 obtain⟨_,_,g6,_,_⟩:=five_of hB6
                 have H6:=Lib.hid (And.intro hj6 (And.intro hjx6 (And.intro hk6 hs6)))
                 clear hj6 hjx6 hk6 hs6 hB6))
            all_goals (
              cases bb
              ·gi_wp2_with fail
               refine bodyPost_ret (results_tmp rfl _ _ _) rfl ?_
               exact .inr ⟨rfl,_,_,⟨dblF l (partsL l) E mm (toN q) [] true,by rw[HR.out.1];simp[flQ]⟩,H6.out.2.1 (by first|trivial|rfl)⟩
              ·gi_wp2_with fail
               gi_region
               all_goals (
                 gi_wp2_with fail
                 refine⟨⟨mm,toN q,[],true,_,_,.slice none 0 0,rfl,rfl,rfl,by omega,hq4,by omega,by simp,?_,(D8.below hF (H5.out.1.next (H6.out.1 (by first|trivial|rfl)) H6.out.2.2.1 H6.out.2.2.2).clear (Below.drew (Below.refl _ _)))⟩,by simp[intOf];omega⟩
                 rw[HR.out.1]
                 simp[flQ]))
    ·obtain⟨mm,rfl⟩:∃m',mm=m'+1:=⟨mm-1,by omega⟩
     have u1:¬(y:Int)<(E:Int):=by omega
     obtain⟨A1,n1,c1,hv⟩:=own_form' hin.i.own
     subst hv
     have hn1:=own_len hin.i.own
     subst hn1
     unfold dblF at hRR
     rw[if_neg hyE] at hRR
     cases here with
     | nil=>
       cases ex with
       | true=>
         rw[if_pos ⟨rfl,rfl⟩,List.append_nil] at hRR
         have HR:=Lib.hid (And.intro hRR hin.clear)
         clear hRR hin
         gi_wp2_with fail
         refine bodyPost_ret (results_tmp rfl _ _ _) rfl ?_
         exact .inl ⟨rfl,_,HR.out.2.xx,HR.out.2.sm,HR.out.2.kx,by rw[HR.out.1];exact HR.out.2.i⟩
       | false=>
         rw[if_neg (by simp)] at hRR
         have hcv:=bytes_back hin.i.own
         simp only[List.length_cons,List.length_nil] at hcv
         have Hcv:=Lib.hid hcv
         obtain⟨fn8,tmps8,assign8,body8,hy,hRd⟩:=H.out.2.1.one (x:=⟨false,true,[]⟩) hin.i.j (List.IsPrefix.trans ⟨[],by rw[hRR];simp⟩ hN) (n-1)
         have hr8:=Lib.hid hRd
         simp only[encP] at hy
         have hy8:=Lib.hid hy
         have HR:=Lib.hid (And.intro hRR hin)
         clear hRd hy hcv hRR hin
         gi_wp2_with (first
           | (rw[Hcv.out])
           | (rw[hy8.out]))
         refine⟨fun h=>by simp[Fence.wide] at h,?_⟩
         refine hr8.out.mono ?_
         rintro e W5 ⟨b8,rfl,hj5,hjx5,hk5,hs5⟩
         cases b8
         ·have H8:=Lib.hid (hjx5 rfl)
          clear hj5 hjx5 hk5 hs5
          gi_wp2_with fail
          refine bodyPost_ret (results_tmp rfl _ _ _) rfl ?_
          exact .inr ⟨rfl,_,_,by rw[HR.out.1];exact List.prefix_refl _,H8.out⟩
         ·have hin5:=(HR.out.2.next (hj5 rfl) hk5 hs5).clear
          have H8:=Lib.hid hin5
          clear hj5 hjx5 hk5 hs5 hin5
          gi_wp2_with fail
          refine bodyPost_ret (results_tmp rfl _ _ _) rfl ?_
          exact .inl ⟨rfl,_,H8.out.xx,H8.out.sm,H8.out.kx,by rw[HR.out.1];exact H8.out.i⟩
     | cons a r=>
       rw[if_neg (by simp)] at hRR
       have hcv:=bytes_back hin.i.own
       simp only[List.length_cons,List.length_nil] at hcv
       have Hcv:=Lib.hid hcv
       obtain⟨fn8,tmps8,assign8,body8,hy,hRd⟩:=H.out.2.1.one (x:=⟨false,true,a::r⟩) hin.i.j (List.IsPrefix.trans ⟨[],by rw[hRR];simp⟩ hN) (n-1)
       have hr8:=Lib.hid hRd
       simp only[encP] at hy
       have hy8:=Lib.hid hy
       have HR:=Lib.hid (And.intro hRR hin)
       clear hRd hy hcv hRR hin
       gi_wp2_with (first
         | (rw[Hcv.out])
         | (rw[hy8.out]))
       refine⟨fun h=>by simp[Fence.wide] at h,?_⟩
       refine hr8.out.mono ?_
       rintro e W5 ⟨b8,rfl,hj5,hjx5,hk5,hs5⟩
       cases b8
       ·have H8:=Lib.hid (hjx5 rfl)
        clear hj5 hjx5 hk5 hs5
        gi_wp2_with fail
        refine bodyPost_ret (results_tmp rfl _ _ _) rfl ?_
        exact .inr ⟨rfl,_,_,by rw[HR.out.1];exact List.prefix_refl _,H8.out⟩
       ·have hin5:=(HR.out.2.next (hj5 rfl) hk5 hs5).clear
        have H8:=Lib.hid hin5
        clear hj5 hjx5 hk5 hs5 hin5
        gi_wp2_with fail
        refine bodyPost_ret (results_tmp rfl _ _ _) rfl ?_
        exact .inl ⟨rfl,_,H8.out.xx,H8.out.sm,H8.out.kx,by rw[HR.out.1];exact H8.out.i⟩
end Go.Proofs.YtlbfdbinaekjoaaGreatDoor
