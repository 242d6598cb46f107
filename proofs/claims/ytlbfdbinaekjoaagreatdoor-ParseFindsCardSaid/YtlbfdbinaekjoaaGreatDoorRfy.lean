/- parts.Inside: where a part's inside begins and ends. -/
import Derived.Test.YtlbfdbinaekjoaaGreatDoorPa2
import Derived.Test.YtlbfdbinaekjoaaGreatDoorMem
import Derived.Deep.DeepCutAuto
import Derived.Deep.CutBlock
import Derived.RangeFuncNested
import Derived.RangeFuncBound
import Derived.RangeFuncBox
import Derived.RangeFuncCalls
import Derived.RangeFuncLeaves
import Derived.Shelf.Abstract
import Derived.Shelf.RegionOpen
import Derived.OwnWalkIn
import Derived.TacticsInMore
import Derived.LoopNIn
import Derived.LoopIn
import Derived.Lib.AppendStr
namespace Go.Proofs.YtlbfdbinaekjoaaGreatDoor
open Go.RowKit
set_option linter.unusedVariables false
set_option linter.unusedSimpArgs false
set_option maxRecDepth 100000
theorem ret_two {a b c d:Int} (h:a=b) (h2:c=d):Ending.returned (.tuple #[.int .i64 a,.int .i64 c])=.returned (.tuple #[.int .i64 b,.int .i64 d]):=by rw[h,h2]
def inFr (q:Prt):Int:=if q.mode=1∨q.mode=7∨q.mode=8 then q.fr+2 else if q.mode=9 then q.fr+3 else q.fr+1
def inTo0 (q:Prt):Int:=if q.mode=12∨q.mode=13∨q.op=true then toP q else if q.mode=9 then toP q-2 else toP q-1
def inTo (q:Prt):Int:=if inTo0 q<inFr q then inFr q else inTo0 q
theorem md_cases (m:Int):((m==1)=true∧(m==7)=false∧(m==8)=false∧(m==9)=false∧(m==12)=false∧(m==13)=false) ∨
    ((m==1)=false∧(m==7)=true∧(m==8)=false∧(m==9)=false∧(m==12)=false∧(m==13)=false) ∨
    ((m==1)=false∧(m==7)=false∧(m==8)=true∧(m==9)=false∧(m==12)=false∧(m==13)=false) ∨
    ((m==1)=false∧(m==7)=false∧(m==8)=false∧(m==9)=true∧(m==12)=false∧(m==13)=false) ∨
    ((m==1)=false∧(m==7)=false∧(m==8)=false∧(m==9)=false∧(m==12)=true∧(m==13)=false) ∨
    ((m==1)=false∧(m==7)=false∧(m==8)=false∧(m==9)=false∧(m==12)=false∧(m==13)=true) ∨
    ((m==1)=false∧(m==7)=false∧(m==8)=false∧(m==9)=false∧(m==12)=false∧(m==13)=false):=by
  simp only[beq_iff_eq,beq_eq_false_iff_ne,ne_eq]
  omega
set_option maxHeartbeats 1000000 in
theorem inside_m (q:Prt) (w:World) (h0:0≤q.fr) (h1:q.fr≤100000) (h2:0≤toP q) (h3:toP q≤100000) :
    Calls Tryz.prog 158 #[.agg #[.int .i64 q.mode,.int .i64 q.fr,.int .i64 (toP q),.int .i64 q.up,.bool q.op]] w fun e w'=>e=.returned (.tuple #[.int .i64 (inFr q),.int .i64 (inTo q)])∧Below w.heap.size w w':=by
  obtain⟨A,hA⟩:∃A,A=inFr q:=⟨_,rfl⟩
  obtain⟨B,hB⟩:∃B,B=inTo q:=⟨_,rfl⟩
  rw[←hA,←hB]
  unfold inTo inTo0 at hB
  rw[←hA] at hB
  unfold inFr at hA
  rcases md_cases q.mode with ⟨t1,t7,t8,t9,t12,t13⟩|⟨t1,t7,t8,t9,t12,t13⟩|⟨t1,t7,t8,t9,t12,t13⟩|⟨t1,t7,t8,t9,t12,t13⟩|⟨t1,t7,t8,t9,t12,t13⟩|⟨t1,t7,t8,t9,t12,t13⟩|⟨t1,t7,t8,t9,t12,t13⟩
  all_goals (
    have HT:=Lib.hid (And.intro t1 (And.intro t7 (And.intro t8 (And.intro t9 (And.intro t12 t13)))))
    cases hop:q.op
    all_goals (
      have HA:=Lib.hid (And.intro hA (And.intro hB hop))
      clear hA hB hop
      go_enter Tryz.func158,Tryz.ntmps158
      go_wp2_with fail
      go_region
      all_goals go_wp2_with fail
      all_goals (
        go_ret2
        obtain⟨e1,e2,e3⟩:=HA.out
        obtain⟨s1,s7,s8,s9,s12,s13⟩:=HT.out
        simp only[beq_iff_eq,beq_eq_false_iff_ne,ne_eq] at s1 s7 s8 s9 s12 s13
        refine⟨ret_two ?_ ?_,((Below.refl _ _).alloc (Nat.le_refl _) _).drew⟩
        ·simp[s1,s7,s8,s9] at e1
         omega
        ·simp[s1,s7,s8,s9,s12,s13,e3] at e1 e2
         rw[e2]
         first
           | (rw[if_pos (by omega)];omega)
           | (rw[if_neg (by omega)];omega)
           | omega)))
end Go.Proofs.YtlbfdbinaekjoaaGreatDoor
namespace Go.Proofs.YtlbfdbinaekjoaaGreatDoor
open Go.RowKit
set_option linter.unusedVariables false
set_option linter.unusedSimpArgs false
set_option maxRecDepth 100000
theorem in_round {n l:Nat} {P:Program} {f:FuncId} {args:Array Value} {w:World} {R:Ending→World→Prop} (h:Calls P f args w R):CallsIn (Fence.wide.inRound l) n P f args w R:=
  CallsIn.inRound l (callsIn_wide.2 h)
structure KeepX (N:Nat) (X:Nat→Prop) (W W':World):Prop where
  size:W.heap.size≤W'.heap.size
  same:∀k,k<N→¬X k→W'.heap[k]? = W.heap[k]?
theorem KeepX.refl (N:Nat) (X:Nat→Prop) (W:World):KeepX N X W W:=⟨Nat.le_refl _,fun _ _ _=>rfl⟩
theorem KeepX.trans {N:Nat} {X:Nat→Prop} {A B C:World} (h:KeepX N X A B) (k:KeepX N X B C):KeepX N X A C:=⟨Nat.le_trans h.size k.size,fun i hi hx=>(k.same i hi hx).trans (h.same i hi hx)⟩
theorem KeepX.cell {N:Nat} {X:Nat→Prop} {W W':World} (h:KeepX N X W W') {b:Nat} (hb:b<N) (hx:¬X b) (o:Nat):W'.cell? ⟨b,o,none⟩=W.cell? ⟨b,o,none⟩:=by
  unfold World.cell?;rw[show W'.heap[(⟨b,o,none⟩:Addr).block]? = W.heap[(⟨b,o,none⟩:Addr).block]? from h.same b hb hx]
theorem KeepX.frozen {N:Nat} {X:Nat→Prop} {W W':World} (h:KeepX N X W W') {b:Nat} (hb:b<N) (hx:¬X b) (o:Nat):W'.frozen? ⟨b,o,none⟩=W.frozen? ⟨b,o,none⟩:=by
  unfold World.frozen?;rw[show W'.heap[(⟨b,o,none⟩:Addr).block]? = W.heap[(⟨b,o,none⟩:Addr).block]? from h.same b hb hx]
theorem keepX_put {N:Nat} {X:Nat→Prop} (W:World) (l:Nat) (o o':Obj) (hl:N≤l) (_:W.heap[l]? = some o) (_:o.isCells=false) (_:o.isWalk=false):KeepX N X W (W.putObj l o'):=
  ⟨by simp,fun k hk _=>World.putObj_heap_other (by omega)⟩
theorem KeepX.of_below {N B:Nat} {X:Nat→Prop} {W W':World} (h:Below B W W') (hB:N≤B):KeepX N X W W':=⟨h.size,fun k hk _=>h.block k (by omega)⟩
theorem KeepX.of_grown {N:Nat} {X:Nat→Prop} {W W':World} {row:Option Nat} (h:W.grownBy W' row) (hN:N≤W.heap.size) (hr:∀j,row=some j→N≤j∨X j):KeepX N X W W':=
  ⟨h.size,fun k hk hx=>h.block k (by omega) (fun e=>by rcases hr k e.symm with h1|h1;omega;exact hx h1)⟩
theorem KeepX.set {N:Nat} {X:Nat→Prop} {W W':World} (h:KeepX N X W W') {b:Nat} (hb:N≤b∨X b) (o:Nat) (v:Value):KeepX N X W (W'.setCell ⟨b,o,none⟩ v):=
  ⟨by simpa [World.setCell] using h.size,fun k hk hx=>(Below.heap_setCell _ _ _ k (fun e=>by have e':k=b:=e;subst e';rcases hb with h1|h1;omega;exact hx h1)).trans (h.same k hk hx)⟩
theorem ownFrom_size {β:Type} (N B:Nat):OwnFrom (β:=β) B (fun _ W=>N≤W.heap.size):=fun _ _ _ _ hs hg _=>Nat.le_trans hs hg.size
theorem stepIn_append_str {F:Fence} {m:Nat} {P:Program} {w:World} {ops:Array Oper} {o:Oper} {a:Act} {K:Act→World→Prop} {Q:Exit→Act→World→Prop} {E:Prop} (hgd:o.guard=none) (s x:Operand) (t u:TypeId)
    (ho:o.op=.call {callee:=.builtin .append,args:=#[s,x],argTypes:=#[t,u]})
    (base:Nat) (e:TypeId) (i:TypeInfo) (ht:P.underlying t=some (.slice e)) (hu:P.underlying u=some .string) (hi:P.info? e=some i) (hz:i.zero=some (.int .u8 0)) (hsize:i.size=1) (hby:i.bytes=1)
    (v:Value) (n:Nat) (xs:List Value) (hs:a.eval s=v) (hown:w.ownsRow base e 1 v n xs) (y:ByteArray) (hx:a.eval x=.string y)
    (h63:n+y.size≤maxLen) (hbytes:n+y.size≤140737488355328) (hbase:base≤w.heap.size)
    (h:∀v' w',w'.ownsRow base e 1 v' (n+y.size) (xs++Lib.strCells y)→w.grownBy w' v.ownBlock→K (a.put o.dst v') w') :
    if Region.wanted o (yielded ops a.tmps)=true then Oper.wpIn F m P o a w K Q else E:=by
  have hw:Region.wanted o (yielded ops a.tmps)=true:=by simp[Region.wanted,hgd]
  rw[if_pos hw]
  obtain⟨v',w',hr,h2,h3,_⟩:=Lib.run_append_own_string (P:=P) w base t u o.type e i ht hu hi hz hsize hby v n xs hown y h63 hbytes hbase
  unfold Oper.wpIn
  refine⟨?_,?_⟩
  ·simp[Oper.about,ho,resolve,Target.leads,Sem.run_pure]
  ·rw[Oper.semAt_plain F _ _ (by rw[ho];intro c hc';cases hc')]
   simp[execOp,ho,resolve,invoke,builtin,hs,hx,hr,Result.andThen]
   exact h v' w' h2 h3
theorem own_not_cells {W:World} {N e size k:Nat} {v:Value} {xs:List Value} (h:W.ownsRow N e size v k xs) {j:Nat} {o:Obj} (hj:v.ownBlock=some j) (ho:W.heap[j]? = some o):o.isCells=true:=by
  rcases h.2 with ⟨rfl,_⟩|⟨g,cap,cur,rfl,_,hh,_⟩
  ·simp[Value.ownBlock] at hj
  ·have:g=j:=by simpa [Value.ownBlock] using hj
   subst this
   rw[hh] at ho
   cases ho
   rfl
theorem box_grown {W W1 w1:World} {N B e size k:Nat} {t:TypeId} {v:Value} {xs:List Value} (hv:Boxed W B t v) (hte:t≠e) (hrow:W.ownsRow N e size v k xs) (hW:Below W.heap.size W W1) (hg:W1.grownBy w1 v.ownBlock):Boxed w1 B t v:=by
  have h1:Boxed W1 B t v:=(hW.block B hv.lt).trans hv
  exact h1.kept hg (hv.not_row hte hrow)
theorem box_append {W W1 w1:World} {N M B e size k m:Nat} {t:TypeId} {v v':Value} {xs ys:List Value} (hv:Boxed W B t v) (hte:t≠e) (hrow:W.ownsRow N e size v k xs) (hN:N≤W.heap.size) (hB:B<N) (hW:Below W.heap.size W W1) (hg:W1.grownBy w1 v.ownBlock)
    (hown:w1.ownsRow N e size v' m ys) :
    KeepsFrom M W (w1.setCell ⟨B,0,none⟩ v')∧KeepX N (· = B) W (w1.setCell ⟨B,0,none⟩ v')∧Boxed (w1.setCell ⟨B,0,none⟩ v') B t v'∧(w1.setCell ⟨B,0,none⟩ v').ownsRow N e size v' m ys ∧
      (∀B0,B0≤B→Below B0 W (w1.setCell ⟨B,0,none⟩ v'))∧N≤(w1.setCell ⟨B,0,none⟩ v').heap.size:=by
  have hv1:=box_grown hv hte hrow hW hg
  have hs1:W.heap.size≤w1.heap.size:=Nat.le_trans hW.size hg.size
  have hsz:(w1.setCell ⟨B,0,none⟩ v').heap.size=w1.heap.size:=by simp[World.setCell]
  refine⟨⟨by rw[hsz];exact hs1,fun j o _ hj ho=>?_⟩,⟨by rw[hsz];exact hs1,fun j hj hx=>?_⟩,hv1.set v',hown.kept (grownBy_setCell' w1 B v') (.inr (hv1.not_row hte hown).symm),fun B0 h0=>?_,by rw[hsz];omega⟩
  ·have hjl:=(Array.getElem?_eq_some_iff.1 hj).1
   have e1:W1.heap[j]? = some o:=(hW.block j hjl).trans hj
   have e2:w1.heap[j]? = some o:=(hg.block j (Array.getElem?_eq_some_iff.1 e1).1 (fun e=>by rw[own_not_cells hrow e.symm hj] at ho;cases ho)).trans e1
   refine(Below.heap_setCell _ _ _ j (fun e=>?_)).trans e2
   have e':j=B:=e
   subst e'
   have:=(show w1.heap[j]? = _ from hv1).symm.trans e2
   cases this
   cases ho
  ·refine(Below.heap_setCell _ _ _ j (fun e=>hx e)).trans ?_
   have e1:W1.heap[j]? = W.heap[j]? := hW.block j (by omega)
   exact(hg.block j (by have:=hW.size;omega) (fun e=>by have:=(hrow.lt j e.symm).1;omega)).trans e1
  ·exact((hW.mono (by omega)).grown hg (by have:=hW.size;omega) (fun j e=>by have:=(hrow.lt j e).1;omega)).setCell (p:=⟨B,0,none⟩) h0 v'
end Go.Proofs.YtlbfdbinaekjoaaGreatDoor
namespace Go.Proofs.YtlbfdbinaekjoaaGreatDoor
open Go.RowKit
set_option linter.unusedVariables false
set_option linter.unusedSimpArgs false
set_option maxRecDepth 100000
attribute [local go_sem] Oper.semAt_some
structure KC (T:List TypeId) (W W':World):Prop where
  size:W.heap.size≤W'.heap.size
  same:∀(k:Nat) (cs:Array Value) (t:TypeId) (fr:Nat×Nat),W.heap[k]? = some (.cells cs t fr)→t∉T→W'.heap[k]? = some (.cells cs t fr)
theorem KC.refl (T:List TypeId) (W:World):KC T W W:=⟨Nat.le_refl _,fun _ _ _ _ h _=>h⟩
theorem KC.trans {T:List TypeId} {A B C:World} (h:KC T A B) (h':KC T B C):KC T A C:=⟨Nat.le_trans h.size h'.size,fun k cs t fr hk ht=>h'.same k cs t fr (h.same k cs t fr hk ht) ht⟩
theorem KC.of_below {T:List TypeId} {W W':World} (h:Below W.heap.size W W'):KC T W W':=⟨h.size,fun k cs t fr hk _=>(h.block k (Array.getElem?_eq_some_iff.1 hk).1).trans hk⟩
theorem KC.put {T:List TypeId} (W:World) (l:Nat) (o o':Obj) (hl:W.heap[l]? = some o) (ho:o.isCells=false):KC T W (W.putObj l o'):=by
  refine⟨by simp,fun k cs t fr hk _=>?_⟩
  by_cases e:k=l
  ·subst e
   rw[hl] at hk
   cases hk
   cases ho
  ·exact(World.putObj_heap_other e).trans hk
theorem KC.set {T:List TypeId} {W W':World} (h:KC T W W') {g:Nat} {cs:Array Value} {t:TypeId} {fr:Nat×Nat} (hg:W'.heap[g]? = some (.cells cs t fr)) (ht:t∈T) (i:Nat) (v:Value):KC T W (W'.setCell ⟨g,i,none⟩ v):=by
  refine⟨by simpa [World.setCell] using h.size,fun k cs' t' fr' hk ht'=>?_⟩
  have h1:=h.same k cs' t' fr' hk ht'
  by_cases e:k=g
  ·subst e
   rw[hg] at h1
   cases h1
   exact absurd ht ht'
  ·exact(Below.heap_setCell _ _ _ k e).trans h1
theorem KC.grown {T:List TypeId} {A B C:World} (h:KC T A B) {row:Option Nat} (hg:B.grownBy C row) (hr:∀k,row=some k→∃(cs:Array Value) (t:TypeId) (fr:Nat×Nat),B.heap[k]? = some (.cells cs t fr)∧t∈T):KC T A C:=by
  refine⟨Nat.le_trans h.size hg.size,fun k cs t fr hk ht=>?_⟩
  have h1:=h.same k cs t fr hk ht
  refine(hg.block k (Array.getElem?_eq_some_iff.1 h1).1 ?_).trans h1
  intro e
  obtain⟨cs',t',fr',h2,ht'⟩:=hr k e.symm
  rw[h1] at h2
  cases h2
  exact ht ht'
theorem Bk.kc {T:List TypeId} {w w':World} {g:Nat} {t:TypeId} {cs:Array Value} (h:Bk w g t cs) (hk:KC T w w') (ht:t∉T):Bk w' g t cs:=hk.same g cs t _ h ht
theorem keepsFrom_below {B:Nat} {W W':World} (h:Below W.heap.size W W'):KeepsFrom B W W':=⟨h.size,fun k o _ hk _=>(h.block k (Array.getElem?_eq_some_iff.1 hk).1).trans hk⟩
theorem bk_own (B:Nat) (t:TypeId) (cs:Array Value) (F:Nat→Prop):OwnFrom B (fun (_:Unit) W=>∃b,Bk W b t cs∧F b):=by
  rintro s W W' row ⟨b,hb,hF⟩ hg hr
  refine⟨b,(hg.block b hb.lt (fun e=>?_)).trans hb,hF⟩
  obtain⟨_,o,ho,hc⟩:=hr b e.symm
  rw[show W.heap[b]? = _ from hb] at ho
  cases ho
  cases hc
end Go.Proofs.YtlbfdbinaekjoaaGreatDoor
namespace Go.Proofs.YtlbfdbinaekjoaaGreatDoor
open Go.RowKit
set_option linter.unusedVariables false
set_option linter.unusedSimpArgs false
set_option maxRecDepth 100000
structure XG (X:Nat→Prop) (A B:World):Prop where
  os:B.os=A.os
  tape:B.tape=A.tape
  output:B.output=A.output
  size:A.heap.size≤B.heap.size
  block:∀k,k<A.heap.size→¬X k→B.heap[k]? = A.heap[k]?
def xNew (X:Nat→Prop) (A B:World):Nat→Prop:=fun k=>X k∨(A.heap.size≤k∧k<B.heap.size)
theorem XG.refl (X:Nat→Prop) (A:World):XG X A A:=⟨rfl,rfl,rfl,Nat.le_refl _,fun _ _ _=>rfl⟩
theorem XG.of_below {X:Nat→Prop} {A B:World} (h:Below A.heap.size A B):XG X A B:=⟨h.1,h.2,h.3,h.size,fun k hk _=>h.block k hk⟩
theorem XG.trans {X:Nat→Prop} {A B C:World} (h:XG X A B) (h':XG (xNew X A B) B C):XG X A C:=
  ⟨h'.os.trans h.os,h'.tape.trans h.tape,h'.output.trans h.output,Nat.le_trans h.size h'.size,fun k hk hx=>
    (h'.block k (Nat.lt_of_lt_of_le hk h.size) (fun hh=>by rcases hh with h1|⟨h1,_⟩;exact hx h1;omega)).trans (h.block k hk hx)⟩
theorem XG.mono {X Y:Nat→Prop} {A B:World} (h:XG X A B) (hXY:∀k,X k→Y k):XG Y A B:=⟨h.os,h.tape,h.output,h.size,fun k hk hy=>h.block k hk (fun hx=>hy (hXY k hx))⟩
theorem XG.below {X:Nat→Prop} {A B B':World} (h:XG X A B) (hb:Below B.heap.size B B'):XG X A B':=h.trans (XG.of_below hb)
theorem XG.set {X:Nat→Prop} {A B:World} (h:XG X A B) {b:Nat} (hb:X b∨A.heap.size≤b) (o:Nat) (v:Value):XG X A (B.setCell ⟨b,o,none⟩ v):=
  ⟨h.os,h.tape,h.output,by simpa [World.setCell] using h.size,fun k hk hx=>(Below.heap_setCell _ _ _ k (fun e=>by
    have e':k=b:=e
    subst e'
    rcases hb with h1|h1
    ·exact hx h1
    ·omega)).trans (h.block k hk hx)⟩
theorem XG.grown {X:Nat→Prop} {A B C:World} (h:XG X A B) {row:Option Nat} (hg:B.grownBy C row) (hr:∀k,row=some k→X k∨A.heap.size≤k):XG X A C:=
  ⟨hg.os.trans h.os,hg.tape.trans h.tape,hg.output.trans h.output,Nat.le_trans h.size hg.size,fun k hk hx=>(hg.block k (Nat.lt_of_lt_of_le hk h.size) (fun e=>by
    rcases hr k e.symm with h1|h1
    ·exact hx h1
    ·omega)).trans (h.block k hk hx)⟩
def Fits {β:Type} (J:(Nat→Prop)→β→World→Prop):Prop:=∀X s A B,J X s A→XG X A B→J (xNew X A B) s B
def SeqX {α:Type} (P:Program) (g:Nat) (lb:Array Value) (encs:α→Array Value) (Kp:World→World→Prop) (S Sp:List α→Prop) (N:List α) (w:World):Prop:=
  ∀(n l:Nat) (J Jx:(Nat→Prop)→List α→World→Prop) (W:World),Below w.heap.size w W→Fits J→Fits Jx →
   (∀X pre x W1,J X pre W1→pre++[x]<+:N→∀m,YieldAt Fence.wide m P l (encs x) W1 fun e W'=>
     (e=.returned (.bool true)∧J X (pre++[x]) W'∧Kp W1 W'∧∀k,X k→W'.heap[k]? = W1.heap[k]?)∨(e=.returned (.bool false)∧Jx X (pre++[x]) W'∧Kp W1 W'∧∀k,X k→W'.heap[k]? = W1.heap[k]?)) →
   J (fun _=>False) [] W →
   CallsIn Fence.wide n P g (#[.func (.yield l) #[] #[]]++lb) W fun e W'=>(∃v,e=.returned v)∧((∃xs X,S xs∧J X xs W')∨(∃pre X,Sp pre∧Jx X pre W'))
theorem round_any {n m:Nat} {P:Program} {l:Nat} {f:FuncId} {tmps:Array Value} {assign body:Code} {w:World} {R:Ending→World→Prop} (h:RoundIn Fence.wide n P l f tmps assign body w R):RoundIn Fence.wide m P l f tmps assign body w R:=
  ⟨h.1,fun c cs _=>h.2 c cs (by simp[Fence.room,Fence.wide])⟩
def postX {α:Type} (B:Nat) (Kp:World→World→Prop) (X:Nat→Prop) (I:(Nat→Prop)→List α→World→Prop) (Ix:Code→(Nat→Prop)→List α→World→Prop) (xs:List α) (W:World):Exit→Act→World→Prop
  | .normal,_,W'=>KeepsFrom B W W'∧Kp W W'∧(∀k,X k→W'.heap[k]? = W.heap[k]?)∧I X xs W'
  | .ret,_,W'=>KeepsFrom B W W'∧Kp W W'∧(∀k,X k→W'.heap[k]? = W.heap[k]?)∧Ix .ret X xs W'
  | .exit id,_,W'=>KeepsFrom B W W'∧Kp W W'∧(∀k,X k→W'.heap[k]? = W.heap[k]?)∧Ix (.exit id) X xs W'
  | _,_,_=>False
theorem rangeFunc_x {α:Type} {P:Program} {n:Nat} {g:Operand} {ps:Array Tmp} {assign body:Code} {Q:Exit→Act→World→Prop} {a:Act} {w:World}
    (h1:1≤n) {gf:Nat} {lb:Array Value} (hg:a.eval g=.func (.func gf) #[] lb) (eg:∀args w,(callFunc gf args).run P w=.ok (.enter gf args) w)
    {encs:α→Array Value} {Kp:World→World→Prop} {S Sp:List α→Prop} {N:List α} {w0:World} (hseq:SeqX P gf lb encs Kp S Sp N w0)
    (hKt:∀{A B C:World},Kp A B→Kp B C→Kp A C) (hKb:∀(W:World) (l:Nat) (o o':Obj),w.heap.size≤l→W.heap[l]? = some o→o.isCells=false→o.isWalk=false→Kp W (W.putObj l o')) (hb0:Below w0.heap.size w0 w) (hps:∀x,(encs x).size=ps.size)
    (I:(Nat→Prop)→List α→World→Prop) (Ix:Code→(Nat→Prop)→List α→World→Prop) (hI:Fits I) (hIx:∀c,Fits (Ix c)) (hIo:∀X,OwnFrom w.heap.size (I X)) (hIxo:∀c X,OwnFrom w.heap.size (Ix c X)) (h0:I (fun _=>False) [] w)
    (Ax:α→Act→World→Prop) (hAx:∀x a',OwnFrom w.heap.size (fun (_:Unit) W=>Ax x a' W))
    (hassign:∀(l:Nat) (X:Nat→Prop) (pre:List α) (x:α) (W:World) (K:Act→World→Prop),I X pre W→pre++[x]<+:N→(∀a' W',KeepsFrom w.heap.size W W'→Kp W W'→(∀k,X k→W'.heap[k]? = W.heap[k]?)→I X pre W'→Ax x a' W'→K a' W') →
      assign.wpIn (Fence.wide.inRound l) (n-1-1) P (Exit.then K (fun _ _ _=>False)) {tmps:=(ps.zip (encs x)).foldl (fun t (p,v)=>t.setIfInBounds p v) a.tmps,defers:=[]} W)
    (hbody:∀(l:Nat) (X:Nat→Prop) (pre:List α) (x:α) (a':Act) (W:World),w.heap.size≤l→(∃r,W.heap[l]? = some (.loop r))→I X pre W→Ax x a' W→pre++[x]<+:N→body.wpIn (Fence.wide.inRound l) (n-1-1) P (postX w.heap.size Kp X I Ix (pre++[x]) W) a' W)
    (hdone:∀(D:Nat) (X:Nat→Prop) (xs:List α) (W:World),w.heap.size≤D→S xs→I X xs W→W.heap[D]? = some (.deferred (some []))→Q .normal {a with defers:={target:=.collected D,args:=#[]}::a.defers} W)
    (hstop:∀(D:Nat) (c:Code) (X:Nat→Prop) (pre:List α) (W:World),w.heap.size≤D→Sp pre→Ix c X pre W→W.heap[D]? = some (.deferred (some []))→c.wpIn Fence.wide n P Q {a with defers:={target:=.collected D,args:=#[]}::a.defers} W) :
    (Code.rangeFunc g ps assign body).wpIn Fence.wide n P Q a w:=by
  refine wpIn_rangeFunc fun fn hfn=>?_
  rw[show Fence.wide.round=none from rfl]
  obtain⟨rec,hrec⟩:∃rec:LoopState→Option Code→Loop,rec=fun st pe=>{state:=st,pending:=pe,fn,tmps:=a.tmps,params:=ps,assign,body,defers:=w.heap.size}:=⟨_,rfl⟩
  obtain⟨V,hV⟩:∃V,(w.alloc (.deferred (some []))).alloc (.loop (rec .ready none))=V:=⟨_,rfl⟩
  have hVs:V.heap.size=w.heap.size+2:=by rw[←hV];simp
  have hVb:Below w.heap.size w V:=by rw[←hV];exact((Below.refl _ w).alloc (Nat.le_refl _) _).alloc (by simp) _
  have hL:V.heap[w.heap.size+1]? = some (.loop (rec .ready none)):=by
    rw[←hV];have:=World.alloc_heap_new (w.alloc (.deferred (some []))) (.loop (rec .ready none));rwa [World.size_alloc] at this
  have hD:V.heap[w.heap.size]? = some (.deferred (some [])):=by
    rw[←hV];exact(Below.heap_alloc _ _ _ (by simp)).trans (World.alloc_heap_new w _)
  have hIV:I (fun _=>False) [] V:=by rw[←hV];exact(hIo _).alloc _ ((hIo _).alloc _ h0)
  refine⟨w.heap.size+1,[{target:=.collected w.heap.size,args:=#[]}],V,{target:=.fn (.func gf) lb,args:=#[.func (.yield (w.heap.size+1)) #[] #[]]},V,gf,
    #[.func (.yield (w.heap.size+1)) #[] #[]]++lb,V,?_,?_,?_,?_,fun _=>h1,?_⟩
  ·rw[←hV,hrec];exact run_enterLoop_outer _ _ _ _ _
  ·simp only[resolve,hg]
   simp[go_sem]
  ·intro f' hf';trivial
  ·simp[invoke,go_sem,eg]
  refine(hseq (n-1) (w.heap.size+1)
    (fun X pre W=>I X pre W∧W.heap[w.heap.size+1]? = some (.loop (rec .ready none))∧W.heap[w.heap.size]? = some (.deferred (some []))∧∀k,X k→w.heap.size+2≤k)
    (fun X pre W=>∃c,Ix c X pre W∧W.heap[w.heap.size+1]? = some (.loop (rec .done (some c)))∧W.heap[w.heap.size]? = some (.deferred (some []))∧∀k,X k→w.heap.size+2≤k)
    V (hb0.trans (hVb.mono hb0.size)) ?_ ?_ ?_ ⟨hIV,hL,hD,fun _ h=>h.elim⟩).mono ?_
  ·rintro X s A B ⟨k1,k2,k3,k4⟩ hx
   have hA:=(Array.getElem?_eq_some_iff.1 k2).1
   exact⟨hI X s A B k1 hx,(hx.block _ hA (fun h=>by have:=k4 _ h;omega)).trans k2,(hx.block _ (by omega) (fun h=>by have:=k4 _ h;omega)).trans k3,fun k h=>by rcases h with h|h;exact k4 k h;omega⟩
  ·rintro X s A B ⟨c,k1,k2,k3,k4⟩ hx
   have hA:=(Array.getElem?_eq_some_iff.1 k2).1
   exact⟨c,hIx c X s A B k1 hx,(hx.block _ hA (fun h=>by have:=k4 _ h;omega)).trans k2,(hx.block _ (by omega) (fun h=>by have:=k4 _ h;omega)).trans k3,fun k h=>by rcases h with h|h;exact k4 k h;omega⟩
  ·rintro X pre x W ⟨k1,k2,k3,k4⟩ hlen m
   have hy:=run_yield (P:=P) (args:=encs x) k2 (by rw[hrec];exact hps x)
   rw[hrec] at hy
   refine⟨fn,_,assign,body,hy,round_any (roundIn_of_wpIn hfn (hassign _ X pre x W _ k1 hlen ?_))⟩
   intro a' Wa ha1 ha2 ha3 ha4 ha5
   have la:=ha1.same _ _ (by omega) k2 rfl
   have da:=ha1.same _ _ (Nat.le_refl _) k3 rfl
   have lt:=(Array.getElem?_eq_some_iff.1 la).1
   refine⟨_,run_beginRound la (by rw[hrec]),?_⟩
   obtain⟨busy,hbusy⟩:∃busy:Obj,busy=.loop {rec .ready none with state:=.busy}:=⟨_,rfl⟩
   rw[←hbusy]
   have lb2:(Wa.putObj (w.heap.size+1) busy).heap[w.heap.size+1]? = some busy:=World.putObj_heap_same lt
   have db2:(Wa.putObj (w.heap.size+1) busy).heap[w.heap.size]? = some (.deferred (some [])):=(World.putObj_heap_other (by omega)).trans da
   have hx2:∀k,X k→(Wa.putObj (w.heap.size+1) busy).heap[k]? = W.heap[k]? := fun k h=>(World.putObj_heap_other (by have:=k4 k h;omega)).trans (ha3 k h)
   have kp2:Kp W (Wa.putObj (w.heap.size+1) busy):=hKt ha2 (hKb _ _ _ _ (by omega) la rfl rfl)
   refine wpIn_mono (hbody _ X pre x a' _ (by omega) ⟨_,by rw[lb2,hbusy]⟩ ((hIo X).putObj _ ha4 (by omega) la rfl) ((hAx x a').putObj (s:=()) _ ha5 (by omega) la rfl) hlen) ?_
   have close:∀(jump:Option Code) (W3:World),KeepsFrom w.heap.size (Wa.putObj (w.heap.size+1) busy) W3→Kp (Wa.putObj (w.heap.size+1) busy) W3→(∀k,X k→W3.heap[k]? = (Wa.putObj (w.heap.size+1) busy).heap[k]?) →
       ∃o:Obj,W3.heap[w.heap.size+1]? = some o∧o.isCells=false ∧
       (Instr.endRound (w.heap.size+1) jump).run P W3=.ok (.bool jump.isNone) (W3.putObj (w.heap.size+1) (.loop (rec (if jump.isNone then .ready else .done) jump))) ∧
       (W3.putObj (w.heap.size+1) (.loop (rec (if jump.isNone then .ready else .done) jump))).heap[w.heap.size+1]? = some (.loop (rec (if jump.isNone then .ready else .done) jump)) ∧
       (W3.putObj (w.heap.size+1) (.loop (rec (if jump.isNone then .ready else .done) jump))).heap[w.heap.size]? = some (.deferred (some [])) ∧
       Kp W (W3.putObj (w.heap.size+1) (.loop (rec (if jump.isNone then .ready else .done) jump))) ∧
       (∀k,X k→(W3.putObj (w.heap.size+1) (.loop (rec (if jump.isNone then .ready else .done) jump))).heap[k]? = W.heap[k]?):=by
     intro jump W3 q1 q2 q3
     have l3:W3.heap[w.heap.size+1]? = some busy:=q1.same _ _ (by omega) lb2 (by rw[hbusy];rfl)
     have d3:=q1.same _ _ (Nat.le_refl _) db2 rfl
     have lt3:=(Array.getElem?_eq_some_iff.1 l3).1
     have hr:(Instr.endRound (w.heap.size+1) jump).run P W3=.ok (.bool jump.isNone) (W3.putObj (w.heap.size+1) (.loop (rec (if jump.isNone then .ready else .done) jump))):=by
       have l4:=l3
       rw[hbusy] at l4
       have:=run_endRound (P:=P) jump l4
       rw[hrec] at this ⊢
       exact this
     refine⟨busy,l3,by rw[hbusy];rfl,hr,World.putObj_heap_same lt3,(World.putObj_heap_other (by omega)).trans d3,hKt (hKt kp2 q2) (hKb _ _ _ _ (by omega) l3 (by rw[hbusy];rfl) (by rw[hbusy];rfl)),fun k h=>?_⟩
     exact(World.putObj_heap_other (by have:=k4 k h;omega)).trans ((q3 k h).trans (hx2 k h))
   rintro e a3 W3 hp
   cases e with
   | normal=>
     obtain⟨q1,q2,q3,q4⟩:=hp
     obtain⟨o,l3,oc,hr,l4,d4,kp4,x4⟩:=close none W3 q1 q2 q3
     exact⟨_,_,hr,.inl ⟨rfl,⟨(hIo X).putObj _ q4 (by omega) l3 oc,l4,d4,k4⟩,kp4,x4⟩⟩
   | ret=>
     obtain⟨q1,q2,q3,q4⟩:=hp
     obtain⟨o,l3,oc,hr,l4,d4,kp4,x4⟩:=close (some .ret) W3 q1 q2 q3
     exact⟨_,_,hr,.inr ⟨rfl,⟨.ret,(hIxo _ X).putObj _ q4 (by omega) l3 oc,l4,d4,k4⟩,kp4,x4⟩⟩
   | exit id=>
     obtain⟨q1,q2,q3,q4⟩:=hp
     obtain⟨o,l3,oc,hr,l4,d4,kp4,x4⟩:=close (some (.exit id)) W3 q1 q2 q3
     exact⟨_,_,hr,.inr ⟨rfl,⟨.exit id,(hIxo _ X).putObj _ q4 (by omega) l3 oc,l4,d4,k4⟩,kp4,x4⟩⟩
   | goto t=>exact hp.elim
   | panic ch=>exact hp.elim
   | outgrown=>exact hp.elim
  ·rintro e W2 ⟨⟨v,rfl⟩,⟨xs,X,hS,k1,k2,k3,k4⟩|⟨pre,X,hSp,c,k1,k2,k3,k4⟩⟩
   ·exact⟨none,_,by have:=run_endLoop (P:=P) k2 (by rw[hrec];simp);rw[hrec] at this;exact this,hdone _ X xs _ (Nat.le_refl _) hS ((hIo X).putObj _ k1 (by omega) k2 rfl) ((World.putObj_heap_other (by omega)).trans k3)⟩
   ·exact⟨some c,_,by have:=run_endLoop (P:=P) k2 (by rw[hrec];simp);rw[hrec] at this;exact this,hstop _ c X pre _ (Nat.le_refl _) hSp ((hIxo c X).putObj _ k1 (by omega) k2 rfl) ((World.putObj_heap_other (by omega)).trans k3)⟩
end Go.Proofs.YtlbfdbinaekjoaaGreatDoor
namespace Go.Proofs.YtlbfdbinaekjoaaGreatDoor
open Go.RowKit
set_option linter.unusedVariables false
set_option linter.unusedSimpArgs false
set_option maxRecDepth 100000
def FitsT {β:Type} (T:List TypeId) (J:(Nat→Prop)→β→World→Prop):Prop:=∀X s A B,J X s A→XG X A B→KC T A B→J (xNew X A B) s B
def SeqY {α:Type} (Ti:List TypeId) (P:Program) (g:Nat) (lb:Array Value) (encs:α→Array Value) (Kp:World→World→Prop) (S Sp:List α→Prop) (St:List α→Prop) (Dy:α→World→Prop) (w:World):Prop:=
  ∀(n l:Nat) (J Jx:(Nat→Prop)→List α→World→Prop) (W:World),Below w.heap.size w W→FitsT Ti J→FitsT Ti Jx →
   (∀X pre x W1,J X pre W1→St (pre++[x])→Dy x W1→∀m,YieldAt Fence.wide m P l (encs x) W1 fun e W'=>
     (e=.returned (.bool true)∧J X (pre++[x]) W'∧Kp W1 W'∧∀k,X k→W'.heap[k]? = W1.heap[k]?)∨(e=.returned (.bool false)∧Jx X (pre++[x]) W'∧Kp W1 W'∧∀k,X k→W'.heap[k]? = W1.heap[k]?)) →
   J (fun _=>False) [] W →
   CallsIn Fence.wide n P g (#[.func (.yield l) #[] #[]]++lb) W fun e W'=>(∃v,e=.returned v)∧((∃xs X,S xs∧J X xs W')∨(∃pre X,Sp pre∧Jx X pre W'))
theorem rangeFunc_y {α:Type} {Ti:List TypeId} {P:Program} {n:Nat} {g:Operand} {ps:Array Tmp} {assign body:Code} {Q:Exit→Act→World→Prop} {a:Act} {w:World}
    (h1:1≤n) {gf:Nat} {lb:Array Value} (hg:a.eval g=.func (.func gf) #[] lb) (eg:∀args w,(callFunc gf args).run P w=.ok (.enter gf args) w)
    {encs:α→Array Value} {Kp:World→World→Prop} {S Sp:List α→Prop} {St:List α→Prop} {Dy:α→World→Prop} {w0:World} (hseq:SeqY Ti P gf lb encs Kp S Sp St Dy w0)
    (hKt:∀{A B C:World},Kp A B→Kp B C→Kp A C) (hKb:∀(W:World) (l:Nat) (o o':Obj),w.heap.size≤l→W.heap[l]? = some o→o.isCells=false→o.isWalk=false→Kp W (W.putObj l o')) (hb0:Below w0.heap.size w0 w) (hps:∀x,(encs x).size=ps.size)
    (I:(Nat→Prop)→List α→World→Prop) (Ix:Code→(Nat→Prop)→List α→World→Prop) (hI:FitsT Ti I) (hIx:∀c,FitsT Ti (Ix c)) (hIo:∀X,OwnFrom w.heap.size (I X)) (hIxo:∀c X,OwnFrom w.heap.size (Ix c X)) (h0:I (fun _=>False) [] w)
    (Ax:α→Act→World→Prop) (hAx:∀x a',OwnFrom w.heap.size (fun (_:Unit) W=>Ax x a' W))
    (hassign:∀(l:Nat) (X:Nat→Prop) (pre:List α) (x:α) (W:World) (K:Act→World→Prop),I X pre W→St (pre++[x])→Dy x W→(∀a' W',KeepsFrom w.heap.size W W'→Kp W W'→(∀k,X k→W'.heap[k]? = W.heap[k]?)→I X pre W'→Ax x a' W'→K a' W') →
      assign.wpIn (Fence.wide.inRound l) (n-1-1) P (Exit.then K (fun _ _ _=>False)) {tmps:=(ps.zip (encs x)).foldl (fun t (p,v)=>t.setIfInBounds p v) a.tmps,defers:=[]} W)
    (hbody:∀(l:Nat) (X:Nat→Prop) (pre:List α) (x:α) (a':Act) (W:World),w.heap.size≤l→(∃r,W.heap[l]? = some (.loop r))→I X pre W→Ax x a' W→St (pre++[x])→body.wpIn (Fence.wide.inRound l) (n-1-1) P (postX w.heap.size Kp X I Ix (pre++[x]) W) a' W)
    (hdone:∀(D:Nat) (X:Nat→Prop) (xs:List α) (W:World),w.heap.size≤D→S xs→I X xs W→W.heap[D]? = some (.deferred (some []))→Q .normal {a with defers:={target:=.collected D,args:=#[]}::a.defers} W)
    (hstop:∀(D:Nat) (c:Code) (X:Nat→Prop) (pre:List α) (W:World),w.heap.size≤D→Sp pre→Ix c X pre W→W.heap[D]? = some (.deferred (some []))→c.wpIn Fence.wide n P Q {a with defers:={target:=.collected D,args:=#[]}::a.defers} W) :
    (Code.rangeFunc g ps assign body).wpIn Fence.wide n P Q a w:=by
  refine wpIn_rangeFunc fun fn hfn=>?_
  rw[show Fence.wide.round=none from rfl]
  obtain⟨rec,hrec⟩:∃rec:LoopState→Option Code→Loop,rec=fun st pe=>{state:=st,pending:=pe,fn,tmps:=a.tmps,params:=ps,assign,body,defers:=w.heap.size}:=⟨_,rfl⟩
  obtain⟨V,hV⟩:∃V,(w.alloc (.deferred (some []))).alloc (.loop (rec .ready none))=V:=⟨_,rfl⟩
  have hVs:V.heap.size=w.heap.size+2:=by rw[←hV];simp
  have hVb:Below w.heap.size w V:=by rw[←hV];exact((Below.refl _ w).alloc (Nat.le_refl _) _).alloc (by simp) _
  have hL:V.heap[w.heap.size+1]? = some (.loop (rec .ready none)):=by
    rw[←hV];have:=World.alloc_heap_new (w.alloc (.deferred (some []))) (.loop (rec .ready none));rwa [World.size_alloc] at this
  have hD:V.heap[w.heap.size]? = some (.deferred (some [])):=by
    rw[←hV];exact(Below.heap_alloc _ _ _ (by simp)).trans (World.alloc_heap_new w _)
  have hIV:I (fun _=>False) [] V:=by rw[←hV];exact(hIo _).alloc _ ((hIo _).alloc _ h0)
  refine⟨w.heap.size+1,[{target:=.collected w.heap.size,args:=#[]}],V,{target:=.fn (.func gf) lb,args:=#[.func (.yield (w.heap.size+1)) #[] #[]]},V,gf,
    #[.func (.yield (w.heap.size+1)) #[] #[]]++lb,V,?_,?_,?_,?_,fun _=>h1,?_⟩
  ·rw[←hV,hrec];exact run_enterLoop_outer _ _ _ _ _
  ·simp only[resolve,hg]
   simp[go_sem]
  ·intro f' hf';trivial
  ·simp[invoke,go_sem,eg]
  refine(hseq (n-1) (w.heap.size+1)
    (fun X pre W=>I X pre W∧W.heap[w.heap.size+1]? = some (.loop (rec .ready none))∧W.heap[w.heap.size]? = some (.deferred (some []))∧∀k,X k→w.heap.size+2≤k)
    (fun X pre W=>∃c,Ix c X pre W∧W.heap[w.heap.size+1]? = some (.loop (rec .done (some c)))∧W.heap[w.heap.size]? = some (.deferred (some []))∧∀k,X k→w.heap.size+2≤k)
    V (hb0.trans (hVb.mono hb0.size)) ?_ ?_ ?_ ⟨hIV,hL,hD,fun _ h=>h.elim⟩).mono ?_
  ·rintro X s A B ⟨k1,k2,k3,k4⟩ hx hkc
   have hA:=(Array.getElem?_eq_some_iff.1 k2).1
   exact⟨hI X s A B k1 hx hkc,(hx.block _ hA (fun h=>by have:=k4 _ h;omega)).trans k2,(hx.block _ (by omega) (fun h=>by have:=k4 _ h;omega)).trans k3,fun k h=>by rcases h with h|h;exact k4 k h;omega⟩
  ·rintro X s A B ⟨c,k1,k2,k3,k4⟩ hx hkc
   have hA:=(Array.getElem?_eq_some_iff.1 k2).1
   exact⟨c,hIx c X s A B k1 hx hkc,(hx.block _ hA (fun h=>by have:=k4 _ h;omega)).trans k2,(hx.block _ (by omega) (fun h=>by have:=k4 _ h;omega)).trans k3,fun k h=>by rcases h with h|h;exact k4 k h;omega⟩
  ·rintro X pre x W ⟨k1,k2,k3,k4⟩ hlen hdy m
   have hy:=run_yield (P:=P) (args:=encs x) k2 (by rw[hrec];exact hps x)
   rw[hrec] at hy
   refine⟨fn,_,assign,body,hy,round_any (roundIn_of_wpIn hfn (hassign _ X pre x W _ k1 hlen hdy ?_))⟩
   intro a' Wa ha1 ha2 ha3 ha4 ha5
   have la:=ha1.same _ _ (by omega) k2 rfl
   have da:=ha1.same _ _ (Nat.le_refl _) k3 rfl
   have lt:=(Array.getElem?_eq_some_iff.1 la).1
   refine⟨_,run_beginRound la (by rw[hrec]),?_⟩
   obtain⟨busy,hbusy⟩:∃busy:Obj,busy=.loop {rec .ready none with state:=.busy}:=⟨_,rfl⟩
   rw[←hbusy]
   have lb2:(Wa.putObj (w.heap.size+1) busy).heap[w.heap.size+1]? = some busy:=World.putObj_heap_same lt
   have db2:(Wa.putObj (w.heap.size+1) busy).heap[w.heap.size]? = some (.deferred (some [])):=(World.putObj_heap_other (by omega)).trans da
   have hx2:∀k,X k→(Wa.putObj (w.heap.size+1) busy).heap[k]? = W.heap[k]? := fun k h=>(World.putObj_heap_other (by have:=k4 k h;omega)).trans (ha3 k h)
   have kp2:Kp W (Wa.putObj (w.heap.size+1) busy):=hKt ha2 (hKb _ _ _ _ (by omega) la rfl rfl)
   refine wpIn_mono (hbody _ X pre x a' _ (by omega) ⟨_,by rw[lb2,hbusy]⟩ ((hIo X).putObj _ ha4 (by omega) la rfl) ((hAx x a').putObj (s:=()) _ ha5 (by omega) la rfl) hlen) ?_
   have close:∀(jump:Option Code) (W3:World),KeepsFrom w.heap.size (Wa.putObj (w.heap.size+1) busy) W3→Kp (Wa.putObj (w.heap.size+1) busy) W3→(∀k,X k→W3.heap[k]? = (Wa.putObj (w.heap.size+1) busy).heap[k]?) →
       ∃o:Obj,W3.heap[w.heap.size+1]? = some o∧o.isCells=false ∧
       (Instr.endRound (w.heap.size+1) jump).run P W3=.ok (.bool jump.isNone) (W3.putObj (w.heap.size+1) (.loop (rec (if jump.isNone then .ready else .done) jump))) ∧
       (W3.putObj (w.heap.size+1) (.loop (rec (if jump.isNone then .ready else .done) jump))).heap[w.heap.size+1]? = some (.loop (rec (if jump.isNone then .ready else .done) jump)) ∧
       (W3.putObj (w.heap.size+1) (.loop (rec (if jump.isNone then .ready else .done) jump))).heap[w.heap.size]? = some (.deferred (some [])) ∧
       Kp W (W3.putObj (w.heap.size+1) (.loop (rec (if jump.isNone then .ready else .done) jump))) ∧
       (∀k,X k→(W3.putObj (w.heap.size+1) (.loop (rec (if jump.isNone then .ready else .done) jump))).heap[k]? = W.heap[k]?):=by
     intro jump W3 q1 q2 q3
     have l3:W3.heap[w.heap.size+1]? = some busy:=q1.same _ _ (by omega) lb2 (by rw[hbusy];rfl)
     have d3:=q1.same _ _ (Nat.le_refl _) db2 rfl
     have lt3:=(Array.getElem?_eq_some_iff.1 l3).1
     have hr:(Instr.endRound (w.heap.size+1) jump).run P W3=.ok (.bool jump.isNone) (W3.putObj (w.heap.size+1) (.loop (rec (if jump.isNone then .ready else .done) jump))):=by
       have l4:=l3
       rw[hbusy] at l4
       have:=run_endRound (P:=P) jump l4
       rw[hrec] at this ⊢
       exact this
     refine⟨busy,l3,by rw[hbusy];rfl,hr,World.putObj_heap_same lt3,(World.putObj_heap_other (by omega)).trans d3,hKt (hKt kp2 q2) (hKb _ _ _ _ (by omega) l3 (by rw[hbusy];rfl) (by rw[hbusy];rfl)),fun k h=>?_⟩
     exact(World.putObj_heap_other (by have:=k4 k h;omega)).trans ((q3 k h).trans (hx2 k h))
   rintro e a3 W3 hp
   cases e with
   | normal=>
     obtain⟨q1,q2,q3,q4⟩:=hp
     obtain⟨o,l3,oc,hr,l4,d4,kp4,x4⟩:=close none W3 q1 q2 q3
     exact⟨_,_,hr,.inl ⟨rfl,⟨(hIo X).putObj _ q4 (by omega) l3 oc,l4,d4,k4⟩,kp4,x4⟩⟩
   | ret=>
     obtain⟨q1,q2,q3,q4⟩:=hp
     obtain⟨o,l3,oc,hr,l4,d4,kp4,x4⟩:=close (some .ret) W3 q1 q2 q3
     exact⟨_,_,hr,.inr ⟨rfl,⟨.ret,(hIxo _ X).putObj _ q4 (by omega) l3 oc,l4,d4,k4⟩,kp4,x4⟩⟩
   | exit id=>
     obtain⟨q1,q2,q3,q4⟩:=hp
     obtain⟨o,l3,oc,hr,l4,d4,kp4,x4⟩:=close (some (.exit id)) W3 q1 q2 q3
     exact⟨_,_,hr,.inr ⟨rfl,⟨.exit id,(hIxo _ X).putObj _ q4 (by omega) l3 oc,l4,d4,k4⟩,kp4,x4⟩⟩
   | goto t=>exact hp.elim
   | panic ch=>exact hp.elim
   | outgrown=>exact hp.elim
  ·rintro e W2 ⟨⟨v,rfl⟩,⟨xs,X,hS,k1,k2,k3,k4⟩|⟨pre,X,hSp,c,k1,k2,k3,k4⟩⟩
   ·exact⟨none,_,by have:=run_endLoop (P:=P) k2 (by rw[hrec];simp);rw[hrec] at this;exact this,hdone _ X xs _ (Nat.le_refl _) hS ((hIo X).putObj _ k1 (by omega) k2 rfl) ((World.putObj_heap_other (by omega)).trans k3)⟩
   ·exact⟨some c,_,by have:=run_endLoop (P:=P) k2 (by rw[hrec];simp);rw[hrec] at this;exact this,hstop _ c X pre _ (Nat.le_refl _) hSp ((hIxo c X).putObj _ k1 (by omega) k2 rfl) ((World.putObj_heap_other (by omega)).trans k3)⟩
end Go.Proofs.YtlbfdbinaekjoaaGreatDoor
