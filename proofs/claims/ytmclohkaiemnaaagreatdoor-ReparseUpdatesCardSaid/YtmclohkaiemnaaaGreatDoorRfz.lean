/- A range over a function whose iterator has blocks of its own from the beginning on (captured variables that it writes). -/
import Derived.Test.YtmclohkaiemnaaaGreatDoorRfy
import Derived.OrdersHeld
import Derived.OrdersIn
set_option linter.unusedVariables false
set_option linter.unusedSimpArgs false
set_option maxRecDepth 100000
set_option maxHeartbeats 8000000
namespace Go.Proofs.YtmclohkaiemnaaaGreatDoor
open Go.RowKit
def N0 {α:Type} (X0:Nat→Prop) (Ti:List TypeId) (P:Program) (g:Nat) (lb:Array Value) (encs:α→Array Value) (Kp:World→World→Prop) (S Sp:List α→Prop) (St:List α→Prop) (Dy:α→World→Prop) (w:World):Prop:=
  ∀(n l:Nat) (J Jx:(Nat→Prop)→List α→World→Prop) (W:World),Below w.heap.size w W→zm Ti J→zm Ti Jx →
   (∀X pre x W1,J X pre W1→St (pre++[x])→Dy x W1→∀m,YieldAt Fence.wide m P l (encs x) W1 fun e W'=>
     (e=.returned (.bool true)∧J X (pre++[x]) W'∧Kp W1 W'∧∀k,X k→W'.heap[k]? = W1.heap[k]?)∨(e=.returned (.bool false)∧Jx X (pre++[x]) W'∧Kp W1 W'∧∀k,X k→W'.heap[k]? = W1.heap[k]?)) →
   J X0 [] W →
   CallsIn Fence.wide n P g (#[.func (.yield l) #[] #[]]++lb) W fun e W'=>(∃v,e=.returned v)∧((∃xs X,S xs∧J X xs W')∨(∃pre X,Sp pre∧Jx X pre W'))
theorem sa {α:Type} {X0:Nat→Prop} {Ti:List TypeId} {P:Program} {n:Nat} {g:Operand} {ps:Array Tmp} {assign body:Code} {Q:Exit→Act→World→Prop} {a:Act} {w:World}
    (h1:1≤n) (hX0:∀k,X0 k→k<w.heap.size) {gf:Nat} {lb:Array Value} (hg:a.eval g=.func (.func gf) #[] lb) (eg:∀args w,(callFunc gf args).run P w=.ok (.enter gf args) w)
    {encs:α→Array Value} {Kp:World→World→Prop} {S Sp:List α→Prop} {St:List α→Prop} {Dy:α→World→Prop} {w0:World} (hseq:N0 X0 Ti P gf lb encs Kp S Sp St Dy w0)
    (hKt:∀{A B C:World},Kp A B→Kp B C→Kp A C) (hKb:∀(W:World) (l:Nat) (o o':Obj),w.heap.size≤l→W.heap[l]? = some o→o.isCells=false→o.isWalk=false→Kp W (W.putObj l o')) (hb0:Below w0.heap.size w0 w) (hps:∀x,(encs x).size=ps.size)
    (I:(Nat→Prop)→List α→World→Prop) (Ix:Code→(Nat→Prop)→List α→World→Prop) (hI:zm Ti I) (hIx:∀c,zm Ti (Ix c)) (hIo:∀X,OwnFrom w.heap.size (I X)) (hIxo:∀c X,OwnFrom w.heap.size (Ix c X)) (h0:I X0 [] w)
    (Ax:α→Act→World→Prop) (hAx:∀x a',OwnFrom w.heap.size (fun (_:Unit) W=>Ax x a' W))
    (hassign:∀(l:Nat) (X:Nat→Prop) (pre:List α) (x:α) (W:World) (K:Act→World→Prop),I X pre W→St (pre++[x])→Dy x W→(∀a' W',KeepsFrom w.heap.size W W'→Kp W W'→(∀k,X k→W'.heap[k]? = W.heap[k]?)→I X pre W'→Ax x a' W'→K a' W') →
      assign.wpIn (Fence.wide.inRound l) (n-1-1) P (Exit.then K (fun _ _ _=>False)) {tmps:=(ps.zip (encs x)).foldl (fun t (p,v)=>t.setIfInBounds p v) a.tmps,defers:=[]} W)
    (hbody:∀(l:Nat) (X:Nat→Prop) (pre:List α) (x:α) (a':Act) (W:World),w.heap.size≤l→(∃r,W.heap[l]? = some (.loop r))→I X pre W→Ax x a' W→St (pre++[x])→body.wpIn (Fence.wide.inRound l) (n-1-1) P (ES w.heap.size Kp X I Ix (pre++[x]) W) a' W)
    (hdone:∀(D:Nat) (X:Nat→Prop) (xs:List α) (W:World),w.heap.size≤D→S xs→I X xs W→W.heap[D]? = some (.deferred (some []))→Q .normal {a with defers:={target:=.collected D,args:=#[]}::a.defers} W)
    (hstop:∀(D:Nat) (c:Code) (X:Nat→Prop) (pre:List α) (W:World),w.heap.size≤D→Sp pre→Ix c X pre W→W.heap[D]? = some (.deferred (some []))→c.wpIn Fence.wide n P Q {a with defers:={target:=.collected D,args:=#[]}::a.defers} W) :
    (Code.rangeFunc g ps assign body).wpIn Fence.wide n P Q a w:=by
  refine wpIn_rangeFunc fun fn hfn=>?_
  rw[show Fence.wide.round=none from rfl];obtain⟨rec,hrec⟩:∃rec:LoopState→Option Code→Loop,rec=fun st pe=>{state:=st,pending:=pe,fn,tmps:=a.tmps,params:=ps,assign,body,defers:=w.heap.size}:=⟨_,rfl⟩
  obtain⟨V,hV⟩:∃V,(w.alloc (.deferred (some []))).alloc (.loop (rec .ready none))=V:=⟨_,rfl⟩;have hVs:V.heap.size=w.heap.size+2:=by rw[←hV];simp
  have hVb:Below w.heap.size w V:=by rw[←hV];exact((ay _ w).alloc (au _) _).alloc (by simp) _
  have hL:V.heap[w.heap.size+1]? = some (.loop (rec .ready none)):=by
    rw[←hV];have:=World.alloc_heap_new (w.alloc (.deferred (some []))) (.loop (rec .ready none));rwa [bc] at this
  have hD:V.heap[w.heap.size]? = some (.deferred (some [])):=by
    rw[←hV];exact(dK _ _ _ (by simp)).trans (World.alloc_heap_new w _)
  have hIV:I X0 [] V:=by rw[←hV];exact(hIo _).alloc _ ((hIo _).alloc _ h0)
  refine⟨w.heap.size+1,[{target:=.collected w.heap.size,args:=#[]}],V,{target:=.fn (.func gf) lb,args:=#[.func (.yield (w.heap.size+1)) #[] #[]]},V,gf,
    #[.func (.yield (w.heap.size+1)) #[] #[]]++lb,V,?_,?_,?_,?_,fun _=>h1,?_⟩
  ·rw[←hV,hrec];exact run_enterLoop_outer _ _ _ _ _
  ·simp only[resolve,hg];simp[go_sem]
  ·intro f' hf';trivial
  ·simp[invoke,go_sem,eg]
  refine(hseq (n-1) (w.heap.size+1)
    (fun X pre W=>I X pre W∧W.heap[w.heap.size+1]? = some (.loop (rec .ready none))∧W.heap[w.heap.size]? = some (.deferred (some []))∧∀k,X k→k<w.heap.size∨w.heap.size+2≤k)
    (fun X pre W=>∃c,Ix c X pre W∧W.heap[w.heap.size+1]? = some (.loop (rec .done (some c)))∧W.heap[w.heap.size]? = some (.deferred (some []))∧∀k,X k→k<w.heap.size∨w.heap.size+2≤k)
    V (hb0.trans (hVb.mono hb0.size)) ?_ ?_ ?_ ⟨hIV,hL,hD,fun k h=>.inl (hX0 k h)⟩).mono ?_
  ·rintro X s A B ⟨k1,k2,k3,k4⟩ hx hkc;have hA:=(aJ.1 k2).1;exact⟨hI X s A B k1 hx hkc,(hx.block _ hA (fun h=>by have:=k4 _ h;omega)).trans k2,(hx.block _ (by omega) (fun h=>by have:=k4 _ h;omega)).trans k3,fun k h=>by rcases h with h|h;exact k4 k h;exact .inr (by omega)⟩
  ·rintro X s A B ⟨c,k1,k2,k3,k4⟩ hx hkc;have hA:=(aJ.1 k2).1;exact⟨c,hIx c X s A B k1 hx hkc,(hx.block _ hA (fun h=>by have:=k4 _ h;omega)).trans k2,(hx.block _ (by omega) (fun h=>by have:=k4 _ h;omega)).trans k3,fun k h=>by rcases h with h|h;exact k4 k h;exact .inr (by omega)⟩
  ·rintro X pre x W ⟨k1,k2,k3,k4⟩ hlen hdy m;have hy:=run_yield (P:=P) (args:=encs x) k2 (by rw[hrec];exact hps x);rw[hrec] at hy;refine⟨fn,_,assign,body,hy,uN (roundIn_of_wpIn hfn (hassign _ X pre x W _ k1 hlen hdy ?_))⟩;intro a' Wa ha1 ha2 ha3 ha4 ha5;have la:=ha1.same _ _ (by omega) k2 rfl;have da:=ha1.same _ _ (au _) k3 rfl;have lt:=(aJ.1 la).1;refine⟨_,run_beginRound la (by rw[hrec]),?_⟩;obtain⟨busy,hbusy⟩:∃busy:Obj,busy=.loop {rec .ready none with state:=.busy}:=⟨_,rfl⟩;rw[←hbusy];have lb2:(Wa.putObj (w.heap.size+1) busy).heap[w.heap.size+1]? = some busy:=World.putObj_heap_same lt;have db2:(Wa.putObj (w.heap.size+1) busy).heap[w.heap.size]? = some (.deferred (some [])):=(World.putObj_heap_other (by omega)).trans da;have hx2:∀k,X k→(Wa.putObj (w.heap.size+1) busy).heap[k]? = W.heap[k]? := fun k h=>(World.putObj_heap_other (by have:=k4 k h;omega)).trans (ha3 k h)
   have kp2:Kp W (Wa.putObj (w.heap.size+1) busy):=hKt ha2 (hKb _ _ _ _ (by omega) la rfl rfl);refine wpIn_mono (hbody _ X pre x a' _ (by omega) ⟨_,by rw[lb2,hbusy]⟩ ((hIo X).putObj _ ha4 (by omega) la rfl) ((hAx x a').putObj (s:=()) _ ha5 (by omega) la rfl) hlen) ?_
   have close:∀(jump:Option Code) (W3:World),KeepsFrom w.heap.size (Wa.putObj (w.heap.size+1) busy) W3→Kp (Wa.putObj (w.heap.size+1) busy) W3→(∀k,X k→W3.heap[k]? = (Wa.putObj (w.heap.size+1) busy).heap[k]?) →
       ∃o:Obj,W3.heap[w.heap.size+1]? = some o∧o.isCells=false ∧
       (Instr.endRound (w.heap.size+1) jump).run P W3=.ok (.bool jump.isNone) (W3.putObj (w.heap.size+1) (.loop (rec (if jump.isNone then .ready else .done) jump))) ∧
       (W3.putObj (w.heap.size+1) (.loop (rec (if jump.isNone then .ready else .done) jump))).heap[w.heap.size+1]? = some (.loop (rec (if jump.isNone then .ready else .done) jump)) ∧
       (W3.putObj (w.heap.size+1) (.loop (rec (if jump.isNone then .ready else .done) jump))).heap[w.heap.size]? = some (.deferred (some [])) ∧
       Kp W (W3.putObj (w.heap.size+1) (.loop (rec (if jump.isNone then .ready else .done) jump))) ∧
       (∀k,X k→(W3.putObj (w.heap.size+1) (.loop (rec (if jump.isNone then .ready else .done) jump))).heap[k]? = W.heap[k]?):=by
     intro jump W3 q1 q2 q3;have l3:W3.heap[w.heap.size+1]? = some busy:=q1.same _ _ (by omega) lb2 (by rw[hbusy];rfl);have d3:=q1.same _ _ (au _) db2 rfl;have lt3:=(aJ.1 l3).1;have hr:(Instr.endRound (w.heap.size+1) jump).run P W3=.ok (.bool jump.isNone) (W3.putObj (w.heap.size+1) (.loop (rec (if jump.isNone then .ready else .done) jump))):=by
       have l4:=l3;rw[hbusy] at l4
       have:=run_endRound (P:=P) jump l4
       rw[hrec] at this ⊢;exact this
     refine⟨busy,l3,by rw[hbusy];rfl,hr,World.putObj_heap_same lt3,(World.putObj_heap_other (by omega)).trans d3,hKt (hKt kp2 q2) (hKb _ _ _ _ (by omega) l3 (by rw[hbusy];rfl) (by rw[hbusy];rfl)),fun k h=>?_⟩
     exact(World.putObj_heap_other (by have:=k4 k h;omega)).trans ((q3 k h).trans (hx2 k h))
   rintro e a3 W3 hp
   cases e with
   | normal=>
     obtain⟨q1,q2,q3,q4⟩:=hp;obtain⟨o,l3,oc,hr,l4,d4,kp4,x4⟩:=close none W3 q1 q2 q3;exact⟨_,_,hr,.inl ⟨rfl,⟨(hIo X).putObj _ q4 (by omega) l3 oc,l4,d4,k4⟩,kp4,x4⟩⟩
   | ret=>
     obtain⟨q1,q2,q3,q4⟩:=hp;obtain⟨o,l3,oc,hr,l4,d4,kp4,x4⟩:=close (some .ret) W3 q1 q2 q3;exact⟨_,_,hr,.inr ⟨rfl,⟨.ret,(hIxo _ X).putObj _ q4 (by omega) l3 oc,l4,d4,k4⟩,kp4,x4⟩⟩
   | exit id=>
     obtain⟨q1,q2,q3,q4⟩:=hp;obtain⟨o,l3,oc,hr,l4,d4,kp4,x4⟩:=close (some (.exit id)) W3 q1 q2 q3;exact⟨_,_,hr,.inr ⟨rfl,⟨.exit id,(hIxo _ X).putObj _ q4 (by omega) l3 oc,l4,d4,k4⟩,kp4,x4⟩⟩
   | goto t=>exact hp.elim
   | panic ch=>exact hp.elim
   | outgrown=>exact hp.elim
  ·rintro e W2 ⟨⟨v,rfl⟩,⟨xs,X,hS,k1,k2,k3,k4⟩|⟨pre,X,hSp,c,k1,k2,k3,k4⟩⟩
   ·exact⟨none,_,by have:=run_endLoop (P:=P) k2 (by rw[hrec];simp);rw[hrec] at this;exact this,hdone _ X xs _ (au _) hS ((hIo X).putObj _ k1 (by omega) k2 rfl) ((World.putObj_heap_other (by omega)).trans k3)⟩
   ·exact⟨some c,_,by have:=run_endLoop (P:=P) k2 (by rw[hrec];simp);rw[hrec] at this;exact this,hstop _ c X pre _ (au _) hSp ((hIxo c X).putObj _ k1 (by omega) k2 rfl) ((World.putObj_heap_other (by omega)).trans k3)⟩
section
open Go.RowKit
section
variable {l n:Nat} {P:Program} {ops:Array Oper} {Q:Exit→Act→World→Prop} {md:Region.Mode}
theorem Cp {i:Nat} {K:Act→World→Prop} {a:Act} {w:World} (hnd:∀(j:Nat) (o:Oper) c,ops[j]? = some o→o.op≠.defer c) (hLO:¬LetsOut Q) (h:wpOp P ops Q i K a w):wpOpIn (Fence.wide.inRound l) n P ops Q i K a w:=by
  unfold wpOpIn;unfold wpOp at h;split
  ·rename_i hi;simp only[hi] at h;exact h
  ·rename_i o hi;simp only[hi] at h;split
   ·rename_i hw;simp only[hw,bP] at h;rcases h with h|h
    ·refine⟨fun _ _=>trivial,?_⟩;rw[Oper.semAt_eq _ _ _ (hnd i o · hi)];unfold Oper.wp at h;generalize (execOp a.eval o).run P w=r at h ⊢
     cases r with
     | ok x w'=>
       cases x with
       | value v=>exact h
       | skip=>exact h
       | defer d=>exact h
       | enter f args=>
         refine⟨fun h=>by simp[Fence.wide] at h,?_⟩;exact CallsIn.inRound l (aX.2 (Calls.mono h fun e w'' he=>by cases e<;>exact he))
       | row row args=>exact⟨fun h=>by simp[Fence.wide] at h,fun c cs _=>let ⟨v,w',r,s⟩:=h c cs;⟨v,w',r,stepsIn_wide.2 s⟩⟩
       | _=>exact h.elim
     | halt x w'=>cases x<;>first|exact h|exact h.elim
    ·exact absurd h.2 hLO
   ·rename_i hw;simp only[hw] at h;exact⟨fun _ _=>trivial,h⟩
theorem sZ (hnd:∀(j:Nat) (o:Oper) c,ops[j]? = some o→o.op≠.defer c) (hLO:¬LetsOut Q):∀(fuel:Nat) (listed:Array Bool) (a:Act) (w:World),wpAny P md ops Q fuel listed a w→wpAnyIn (Fence.wide.inRound l) n P md ops Q fuel listed a w
  | 0,_,_,_,h=>h
  | fuel+1,_,_,_,h=>⟨h.1,fun i hi=>Cp hnd hLO (wpOp_mono (fun a' w' h'=>sZ hnd hLO fuel _ a' w' h') (h.2 i hi))⟩
def BP (ops:Array Oper):Bool:=ops.all fun o=>match o.op with | .defer _=>false|_=>true
theorem wy (h:BP ops=true) (j:Nat) (o:Oper) (c) (hj:ops[j]? = some o):o.op≠.defer c:=by
  intro e;obtain⟨hlt,he⟩:=aJ.1 hj
  have:=Array.all_eq_true.1 h j hlt
  rw[he,e] at this
  cases this
theorem gm {S:World→Prop} {id:Nat} {a:Act} {w:World} (hm:P.follows .mixedOrders=true) (hnd:BP ops=true) (hLO:¬LetsOut Q)
    (h:wpAnyH P .any ops Q S ops.size (Array.replicate ops.size false) a w.drew):(Code.region id ops true).wpIn (Fence.wide.inRound l) n P Q a w:=
  wpIn_region_any hm (sZ (wy hnd) hLO _ _ _ _ (wpAny_of_held _ _ _ _ h))
theorem fj {S:World→Prop} {K:Nat→Act→World→Prop} {a:Act} {w:World}:∀i∈([]:List Nat),wpOp P ops Q i (K i) a w:=fun _ h=>by cases h
theorem eR {S:World→Prop} {fuel:Nat} {listed:Array Bool} {a:Act} {w:World} {i:Nat} {o:Oper} {rs:List Nat} (ho:ops[i]? = some o) (hw:Region.wanted o (yielded ops a.tmps)=true)
    (h:∀K':Act→World→Prop,(∀a' w',S w'→wpAnyH P md ops Q S fuel (listed.setIfInBounds i true) a' w'→K' a' w')→o.wp P a w K' Q)
    (hs:∀j∈rs,wpOp P ops Q j (fun a' w'=>S w'∧wpAnyH P md ops Q S fuel (listed.setIfInBounds j true) a' w') a w) :
    ∀j∈i::rs,wpOp P ops Q j (fun a' w'=>S w'∧wpAnyH P md ops Q S fuel (listed.setIfInBounds j true) a' w') a w:=by
  intro j hj;rcases bj.1 hj with rfl|hj
  ·unfold wpOp;simp only[ho];rw[aB hw];exact .inl (h _ fun a' w' h1 h2=>⟨h1,h2⟩)
  ·exact hs j hj
end
end
end Go.Proofs.YtmclohkaiemnaaaGreatDoor
