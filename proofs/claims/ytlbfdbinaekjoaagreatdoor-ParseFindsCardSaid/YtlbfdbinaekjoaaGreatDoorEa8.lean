/- A region that draws its order: first a forced row of operations that may do anything, then operations that only read, in whatever order, then a forced row again. One walk, in the order of the text. -/
import Derived.Test.YtlbfdbinaekjoaaGreatDoorRfy
import Derived.Test.YtlbfdbinaekjoaaGreatDoorDb8
import Derived.StillTailTactics
namespace Go.Proofs.YtlbfdbinaekjoaaGreatDoor
open Go.RowKit
set_option linter.unusedVariables false
set_option linter.unusedSimpArgs false
set_option maxRecDepth 100000
theorem still_wpIn {P:Program} {n:Nat} {w:World} {o:Oper} {a:Act} {K:Act→Prop} {K':Act→World→Prop} {Q':Exit→Act→World→Prop} (h:∀a,K a→K' a w) (hh:o.still P a w K):o.wpIn Fence.wide n P a w K' Q':=by
  unfold Oper.still at hh
  unfold Oper.wpIn
  refine⟨fun _ _=>trivial,?_⟩
  rw[show Fence.wide.round=none from rfl,Oper.semAt_none]
  generalize (execOp a.eval o).run P w=r at *
  cases r with
  | ok m w'=>
    cases m<;>simp only[Oper.stillUpon] at hh<;>simp only[Oper.uponIn]
    case enter f args=>
      obtain⟨rfl,v,hc,hn⟩:=hh
      exact⟨fun h=>by simp[Fence.wide] at h,(callsIn_wide.2 hc).mono fun e w'' ⟨he,hw⟩=>by subst he;subst hw;exact h _ hn⟩
    all_goals (obtain⟨rfl,h2⟩:=hh;exact h _ h2)
  | halt x w'=>simp only[Oper.stillUpon] at hh
theorem still_wpOpIn {P:Program} {n:Nat} {ops:Array Oper} {w:World} {i:Nat} {a:Act} {K:Act→Prop} {K':Act→World→Prop} {Q':Exit→Act→World→Prop} (h:∀a,K a→K' a w) (hh:stOp P ops w i K a):wpOpIn Fence.wide n P ops Q' i K' a w:=by
  unfold stOp at hh
  unfold wpOpIn
  split
  ·rename_i ho;simp only[ho] at hh;exact h _ hh
  ·rename_i o ho
   simp only[ho] at hh
   split
   ·rename_i hw;simp only[hw,if_true] at hh;exact still_wpIn h hh
   ·rename_i hw;simp only[hw] at hh;exact⟨fun _ _=>trivial,h _ hh⟩
theorem anyIn_of_head {P:Program} {n:Nat} {md:Region.Mode} {ops:Array Oper} {w:World} {k g:Nat} {L:Array Bool→Act→Prop} {Q':Exit→Act→World→Prop} (hL:∀listed a,L listed a→wpAnyIn Fence.wide n P md ops Q' g listed a w) :
    ∀(f:Nat) (listed:Array Bool) (a:Act),wpAnyL P md ops w k L f listed a→wpAnyIn Fence.wide n P md ops Q' (f+g) listed a w
  | 0,listed,a,h=>by rw[Nat.zero_add];exact hL _ _ h
  | f+1,listed,a,h=>by
    rw[show f+1+g=(f+g)+1 by omega]
    exact⟨fun h0=>absurd h0 h.1,fun i hi=>still_wpOpIn (fun a' h'=>anyIn_of_head hL f _ a' h') (h.2 i hi).2⟩
theorem anyIn_of_seq {P:Program} {n:Nat} {md:Region.Mode} {ops:Array Oper} {Q':Exit→Act→World→Prop}:∀(l:List Oper) (k:Nat) (listed:Array Bool) (a:Act) (w:World),(∀j,l[j]? = ops[k+j]?) →
    Region.seqB md ops l.length k listed=true→wpListIn Fence.wide n P ops Q' l a w→wpAnyIn Fence.wide n P md ops Q' l.length listed a w
  | [],_,_,_,_,_,hB,h=>⟨by simpa [Region.seqB] using hB,h⟩
  | o::l,k,listed,a,w,hl,hB,h=>by
    have h0:ops[k]? = some o:=by simpa using (hl 0).symm
    simp only[List.length_cons,Region.seqB,Bool.and_eq_true,decide_eq_true_eq] at hB
    refine⟨fun h1=>(by rw[hB.1] at h1;cases h1),fun i hi=>?_⟩
    rw[hB.1] at hi
    have hik:i=k:=by simpa using hi
    subst hik
    have hw:wpOpIn Fence.wide n P ops Q' i (wpListIn Fence.wide n P ops Q' l) a w:=by unfold wpOpIn;simp only[h0];exact h
    exact wpOpIn_mono (fun a' w' h'=>anyIn_of_seq l (i+1) _ a' w' (fun j=>by have:=hl (j+1);simpa [Nat.add_assoc,Nat.add_comm 1 j] using this) hB.2 h') hw
def hstHead (md:Region.Mode) (ops:Array Oper) (g s:Nat):Nat→Nat→Array Bool→Bool
  | 0,k,listed=>Region.lexHead md ops g s k listed
  | f+1,k,listed=>decide (Region.ready md ops listed=[k])&&hstHead md ops g s f (k+1) (listed.setIfInBounds k true)
def hstB (md:Region.Mode) (ops:Array Oper) (m n:Nat):Bool:=
  Region.noSelect ops&&decide (n<ops.size)&&decide (m≤n)&&Region.sinkB md ops n&&Region.chainB md ops n&&hstHead md ops (ops.size-n) (n-m) m 0 (Array.replicate ops.size false)
structure Behind (p:Prop):Prop where
  out:p
def hstQ (F:Nat) (P:Program) (ops:Array Oper) (Q:Exit→Act→World→Prop) (mid tl:List Oper):Exit→Act→World→Prop
  | .normal,a,w=>Behind (wpStill P ops w (fun a'=>wpListIn Fence.wide F P ops Q tl a' w) mid a)
  | e,a,w=>Q e a w
theorem hst_oper {F:Nat} {P:Program} {ops:Array Oper} {Q:Exit→Act→World→Prop} {mid tl:List Oper} {o:Oper} {a:Act} {w:World} {K:Act→World→Prop} (h:o.wpIn Fence.wide F P a w K (hstQ F P ops Q mid tl)):o.wpIn Fence.wide F P a w K Q:=by
  unfold Oper.wpIn at *
  refine⟨h.1,?_⟩
  have hh:=h.2
  generalize (o.semAt Fence.wide.round a.eval).run P w=r at *
  cases r with
  | ok x w'=>
    cases x<;>simp only[Oper.uponIn] at hh ⊢ <;>
      first
        | exact hh
        | exact⟨hh.1,CallsIn.mono hh.2 (fun e w'' he=>by cases e<;>exact he)⟩
        | exact⟨hh.1,RowsIn.mono hh.2 (fun _ _ he=>he)⟩
        | exact⟨hh.1,RoundIn.mono hh.2 (fun e w'' he=>by cases e<;>exact he)⟩
  | halt x w'=>cases x<;>simp only[Oper.uponIn] at hh ⊢ <;> exact hh
theorem anyIn_of_hst {P:Program} {n N:Nat} {ops:Array Oper} {Q:Exit→Act→World→Prop} {md:Region.Mode} {mid tl:List Oper} {g:Nat} (hsel:Region.noSelect ops=true) (hs:Region.sinkB md ops N=true) (hc:Region.chainB md ops N=true) (hn:N<ops.size)
    (hmid:mid=(ops.toList.drop (N-mid.length)).take mid.length) (hml:mid.length≤N) (htl:tl=ops.toList.drop N) (hg:g=tl.length) :
    ∀(l:List Oper) (k:Nat) (listed:Array Bool) (a:Act) (w:World),(∀j,j<l.length→l[j]? = ops[k+j]?)→k+l.length=N-mid.length→HeadInv md ops N listed →
    hstHead md ops g mid.length l.length k listed=true→wpListIn Fence.wide n P ops (hstQ n P ops Q mid tl) l a w→wpAnyIn Fence.wide n P md ops Q (l.length+(mid.length+g)) listed a w
  | [],k,listed,a,w,hl,hk,inv,hB,h=>by
    have hk':k=N-mid.length:=by simpa using hk
    have hB':Region.lexHead md ops g mid.length k listed=true:=hB
    have h0:Behind (wpStill P ops w (fun a'=>wpListIn Fence.wide n P ops Q tl a' w) mid a):=h
    have h':=h0.out
    have H:=wpAnyL_lex (md:=md) (g:=g) (P:=P) (w:=w) hsel hs hc hn mid k listed a (fun j hj=>by
      rw[hmid,List.getElem?_take_of_lt hj,List.getElem?_drop,hk']
      simp) (by omega) inv hB' h'
    have:=anyIn_of_head (n:=n) (Q':=Q) (g:=g) (fun listed' a' hL=>by
      have h3:=anyIn_of_seq (n:=n) (md:=md) (Q':=Q) tl N listed' a' w (fun j=>by rw[htl,List.getElem?_drop];simp) (by rw[←hg];exact hL.1) hL.2
      rwa [←hg] at h3) _ _ _ H
    simpa using this
  | o::l,k,listed,a,w,hl,hk,inv,hB,h=>by
    have h0:ops[k]? = some o:=by simpa using (hl 0 (by simp)).symm
    simp only[List.length_cons,hstHead,Bool.and_eq_true,decide_eq_true_eq] at hB
    have hkN:k<N:=by simp only[List.length_cons] at hk;omega
    rw[show (o::l).length+(mid.length+g)=(l.length+(mid.length+g))+1 by simp only[List.length_cons];omega]
    refine⟨fun h1=>(by rw[hB.1] at h1;cases h1),fun i hi=>?_⟩
    have hi0:=hi
    rw[hB.1] at hi
    have hik:i=k:=by simpa using hi
    subst hik
    have hw:wpOpIn Fence.wide n P ops Q i (wpListIn Fence.wide n P ops (hstQ n P ops Q mid tl) l) a w:=by
      unfold wpOpIn
      simp only[h0]
      have h4:(if Region.wanted o (yielded ops a.tmps)=true then o.wpIn Fence.wide n P a w (wpListIn Fence.wide n P ops (hstQ n P ops Q mid tl) l) (hstQ n P ops Q mid tl) else (∀f,o.about P w a.eval=some f→Fence.wide.fn f)∧wpListIn Fence.wide n P ops (hstQ n P ops Q mid tl) l (a.put o.dst undef) w):=h
      split
      ·rename_i hw
       rw[if_pos hw] at h4
       exact hst_oper h4
      ·rename_i hw
       rw[if_neg hw] at h4
       exact h4
    exact wpOpIn_mono (fun a' w' h'=>anyIn_of_hst hsel hs hc hn hmid hml htl hg l (i+1) _ a' w' (fun j hj=>by have:=hl (j+1) (by simp;omega);simpa [Nat.add_assoc,Nat.add_comm 1 j] using this) (by simp only[List.length_cons] at hk;omega) (inv.set hi0 hkN) hB.2 h') hw
theorem region_hst0 {P:Program} {n:Nat} {id:Nat} {Q:Exit→Act→World→Prop} {a:Act} {w:World} {l:List Oper} (m N:Nat) (hm:P.follows .mixedOrders=true) (hB:hstB .any l.toArray m N=true)
    (h:wpListIn Fence.wide n P l.toArray (hstQ n P l.toArray Q ((l.take N).drop m) (l.drop N)) (l.take m) a w.drew):(Code.region id l.toArray true).wpIn Fence.wide n P Q a w:=by
  simp only[hstB,Bool.and_eq_true,decide_eq_true_eq] at hB
  obtain⟨⟨⟨⟨⟨hsel,hn⟩,hmN⟩,hs⟩,hc⟩,hlex⟩:=hB
  have hn':N<l.length:=by simpa using hn
  have e1:((l.take N).drop m).length=N-m:=by simp;omega
  have e2:(l.drop N).length=l.toArray.size-N:=by simp
  have e3:(l.take m).length=m:=by simp;omega
  have inv0:HeadInv .any l.toArray N (Array.replicate l.toArray.size false):=
    ⟨by simp,fun j oj _ hl=>(by rw[getD_replicate_false] at hl;cases hl),fun t _ ht=>getD_in (by simpa using ht) (getD_replicate_false _ _)⟩
  refine wpIn_region_any hm ?_
  have H:=anyIn_of_hst (n:=n) (P:=P) (Q:=Q) (mid:=(l.take N).drop m) (tl:=l.drop N) (g:=l.toArray.size-N) hsel hs hc hn (by
    rw[e1,show N-(N-m)=m by omega]
    simp only[List.drop_take]) (by rw[e1];omega) (by simp) e2.symm (l.take m) 0 (Array.replicate l.toArray.size false) a w.drew (fun j hj=>by
    rw[e3] at hj
    simp[List.getElem?_take_of_lt hj]) (by rw[e1,e3];omega) inv0 (by rw[e1,e3];exact hlex) h
  rw[e1,e3,show m+(N-m+(l.toArray.size-N))=l.toArray.size by simp;omega] at H
  exact H
def hstK (K:Act→World→Prop) (Q:Exit→Act→World→Prop):Exit→Act→World→Prop
  | .normal,a,w=>K a w
  | e,a,w=>Q e a w
theorem hstK_normal (K:Act→World→Prop) (Q:Exit→Act→World→Prop) (a:Act) (w:World):hstK K Q .normal a w=K a w:=rfl
theorem hstK_is (F:Nat) (P:Program) (ops:Array Oper) (Q:Exit→Act→World→Prop) (mid tl:List Oper):hstK (fun a w=>Behind (wpStill P ops w (fun a'=>wpListIn Fence.wide F P ops Q tl a' w) mid a)) Q=hstQ F P ops Q mid tl:=by
  funext e a w
  cases e<;>rfl
theorem wpIn_region_hst {P:Program} {n:Nat} {id:Nat} {Q:Exit→Act→World→Prop} {a:Act} {w:World} {l:List Oper} (m N:Nat) (hm:P.follows .mixedOrders=true) (hB:hstB .any l.toArray m N=true)
    (h:∀K:Act→World→Prop,(∀a1 w1,wpStill P l.toArray w1 (fun a'=>wpListIn Fence.wide n P l.toArray Q (l.drop N) a' w1) ((l.take N).drop m) a1→K a1 w1)→wpListIn Fence.wide n P l.toArray (hstK K Q) (l.take m) a w.drew):(Code.region id l.toArray true).wpIn Fence.wide n P Q a w:=by
  refine region_hst0 m N hm hB ?_
  have:=h _ (fun a1 w1 h1=>Behind.mk h1)
  rwa [hstK_is] at this
end Go.Proofs.YtlbfdbinaekjoaaGreatDoor
namespace Go.Proofs.YtlbfdbinaekjoaaGreatDoor
open Go.RowKit
set_option linter.unusedVariables false
set_option linter.unusedSimpArgs false
set_option maxRecDepth 100000
attribute [local go_sem] Oper.semAt_some
theorem stepIn_append_rd {F:Fence} {m:Nat} {P:Program} {w:World} {ops:Array Oper} {o:Oper} {a:Act} {K:Act→World→Prop} {Q:Exit→Act→World→Prop} {E:Prop} (hgd:o.guard=none) (s x:Operand) (t:TypeId)
    (ho:o.op=.call {callee:=.builtin .append,args:=#[s,x],argTypes:=#[t,t]})
    (base:Nat) (e:TypeId) (i:TypeInfo) (z:Value) (size bytes:Nat) (ht:P.underlying t=some (.slice e)) (hi:P.info? e=some i) (hz:i.zero=some z)
    (hsize:i.size=size) (hby:i.bytes=bytes) (hzs:z.cells.size=size) (hsz:0<size)
    (v:Value) (k:Nat) (xs:List Value) (hs:a.eval s=v) (hown:w.ownsRow base e size v k xs)
    (y:Value) (mm B:Nat) (news:List Value) (hx:a.eval x=y) (hr:Rd w B size y mm news) (h1:∀u∈news,u.oneCell'=true)
    (h63:k+mm≤maxLen) (hbytes:(k+mm)*bytes≤140737488355328) (hbase:base≤w.heap.size)
    (h:∀v' w',w'.ownsRow base e size v' (k+mm) (xs++news)→w.grownBy w' v.ownBlock→(v'.ownBlock=v.ownBlock∨v'.ownBlock=some w.heap.size)→K (a.put o.dst v') w') :
    if Region.wanted o (yielded ops a.tmps)=true then Oper.wpIn F m P o a w K Q else E:=by
  have hw:Region.wanted o (yielded ops a.tmps)=true:=by simp[Region.wanted,hgd]
  rw[if_pos hw]
  obtain⟨v',w',hrun,h2,h3,h4⟩:=run_append_rd (P:=P) w base t o.type e i z size bytes ht hi hz hsize hby hzs hsz v k xs hown y mm B news hr h1 h63 hbytes hbase
  unfold Oper.wpIn
  refine⟨?_,?_⟩
  ·simp[Oper.about,ho,resolve,Target.leads,Sem.run_pure]
  ·rw[Oper.semAt_plain F _ _ (by rw[ho];intro c hc';cases hc')]
   simp[execOp,ho,resolve,invoke,builtin,hs,hx,hrun,Result.andThen]
   exact h v' w' h2 h3 h4
theorem At8.app {J:(Nat→Prop)→List Pc→World→Prop} (hF:Fits J) {W W1 w1:World} {n₀:Nat} {Xc X:Nat→Prop} {pre:List Pc} {p y l':Nat} {buf buf':List UInt8} {v v':Value} {b:Nat} {l:List UInt8} {A:Option Addr} {c m:Nat}
    (h:At8 J W n₀ Xc X pre p y l' buf v b l A c m) (hb:Below W.heap.size W W1) (hg:W1.grownBy w1 v.ownBlock) (ho:w1.ownsRow 0 5 1 v' buf'.length (bvals buf')) (hv:v'.ownBlock=v.ownBlock∨v'.ownBlock=some W1.heap.size) :
    At8 J (w1.setCell ⟨p,0,none⟩ v') n₀ Xc (xNew X W (w1.setCell ⟨p,0,none⟩ v')) pre p y l' buf' v' b l A c m∧KeepX n₀ Xc W (w1.setCell ⟨p,0,none⟩ v'):=by
  have hsz:(w1.setCell ⟨p,0,none⟩ v').heap.size=w1.heap.size:=by simp[World.setCell]
  have hx:XG X W (w1.setCell ⟨p,0,none⟩ v'):=((XG.of_below hb).grown hg (fun k hk=>.inl (h.it.xv k hk))).set (.inl h.it.xp) 0 v'
  have hp1:Bk w1 p 111 #[v]:=(h.it.pb.below hb h.it.pb.lt).grown hg (own_ne (own_below h.it.own hb) (h.it.pb.below hb h.it.pb.lt) (by decide)).symm
  have hy1:Bk w1 y 150 #[.func (.yield l') #[] #[]]:=(h.it.yb.below hb h.it.yb.lt).grown hg (own_ne (own_below h.it.own hb) (h.it.yb.below hb h.it.yb.lt) (by decide)).symm
  have hkx:KeepX n₀ Xc W (w1.setCell ⟨p,0,none⟩ v'):=((KeepX.of_below hb h.wn).trans (KeepX.of_grown hg (Nat.le_trans h.wn hb.size) (fun j hj=>.inl (h.xn j (h.it.xv j hj)).1))).set (.inl (h.xn _ h.it.xp).1) 0 v'
  refine⟨⟨hF _ _ _ _ h.j hx,⟨by simpa using hp1.set 0 v',own_far ho (own_ne ho hp1 (by decide)) _,hy1.far h.it.ne.symm _,.inl h.it.xp,.inl h.it.xy,fun k hk=>?_⟩,h.rd.keep hkx,fun k hk=>?_,Nat.le_trans h.wn hx.size⟩,hkx⟩
  ·rcases hv with e|e
   ·exact .inl (h.it.xv k (by rw[←e];exact hk))
   ·have h2:=(ho.lt k hk).2
    rw[e] at hk
    injection hk with hk
    exact .inr ⟨by have:=hb.size;omega,by rw[hsz];exact h2⟩
  ·rcases hk with hk|hk
   ·have:=h.xn k hk;have:=hx.size;omega
   ·have:=h.wn;omega
theorem At8.in8 {J:(Nat→Prop)→List Pc→World→Prop} {W:World} {n₀:Nat} {Xc X:Nat→Prop} {pre:List Pc} {p y l':Nat} {buf:List UInt8} {v:Value} {b:Nat} {l:List UInt8} {A:Option Addr} {c m:Nat}
    (h:At8 J W n₀ Xc X pre p y l' buf v b l A c m):In8 J W n₀ Xc X pre b l A c m [] (.slice none 0 0):=
  ⟨h.j,h.rd,h.xn,h.wn,World.ownsRow_nil _ _ _ _,by intro k hk;simp[Value.ownBlock] at hk⟩
theorem At8.of_in8 {J:(Nat→Prop)→List Pc→World→Prop} {W W':World} {n₀:Nat} {Xc X X':Nat→Prop} {pre pre':List Pc} {p y l':Nat} {buf:List UInt8} {v:Value} {b:Nat} {l:List UInt8} {A:Option Addr} {c m:Nat}
    (h:At8 J W n₀ Xc X pre p y l' buf v b l A c m) (hXX:∀k,X k→X' k) (hs:∀k,X k→W'.heap[k]? = W.heap[k]?) (hi:In8 J W' n₀ Xc X' pre' b l A c m [] (.slice none 0 0)):At8 J W' n₀ Xc X' pre' p y l' buf v b l A c m:=
  ⟨hi.j,h.it.same hXX hs,hi.rd,hi.xn,hi.wn⟩
theorem bk_ne {w:World} {g h:Nat} {t u:TypeId} {a b:Array Value} (hg:Bk w g t a) (hh:Bk w h u b) (ne:t≠u):g≠h:=by
  intro e
  subst e
  unfold Bk at hg hh
  rw[hg] at hh
  injection hh with hh
  injection hh with _ hh
  exact ne hh
structure E8 (J:(Nat→Prop)→List Pc→World→Prop) (W wr:World) (n₀:Nat) (Xc X:Nat→Prop) (pre:List Pc) (p y l':Nat) (buf:List UInt8) (v:Value) (b:Nat) (l:List UInt8) (A:Option Addr) (c m rb:Nat):Prop where
  a:At8 J wr n₀ Xc X pre p y l' buf v b l A c m
  kx:KeepX n₀ Xc W wr
  rbk:Bk W rb 118 #[.pointer (some ⟨b,0,none⟩)]
  rn:rb<n₀∧¬Xc rb
theorem E8.box {J:(Nat→Prop)→List Pc→World→Prop} {W wr:World} {n₀:Nat} {Xc X:Nat→Prop} {pre:List Pc} {p y l':Nat} {buf:List UInt8} {v:Value} {b:Nat} {l:List UInt8} {A:Option Addr} {c m rb:Nat}
    (h:E8 J W wr n₀ Xc X pre p y l' buf v b l A c m rb):Bk wr rb 118 #[.pointer (some ⟨b,0,none⟩)]:=(h.kx.same rb h.rn.1 h.rn.2).trans h.rbk
theorem E8.below {J:(Nat→Prop)→List Pc→World→Prop} (hF:Fits J) {W wr w':World} {n₀:Nat} {Xc X:Nat→Prop} {pre:List Pc} {p y l':Nat} {buf:List UInt8} {v:Value} {b:Nat} {l:List UInt8} {A:Option Addr} {c m rb:Nat}
    (h:E8 J W wr n₀ Xc X pre p y l' buf v b l A c m rb) (hb:Below wr.heap.size wr w'):E8 J W w' n₀ Xc (xNew X wr w') pre p y l' buf v b l A c m rb:=
  ⟨h.a.below hF hb,h.kx.trans (KeepX.of_below hb h.a.wn),h.rbk,h.rn⟩
theorem undef_bool (b:Bool):¬(some undef=some (Value.bool b)):=by
  intro h
  unfold undef at h
  cases h
theorem E8.flush {J:(Nat→Prop)→List Pc→World→Prop} {W w5 w6:World} {n₀:Nat} {Xc X X6:Nat→Prop} {pre pre':List Pc} {p y l':Nat} {buf:List UInt8} {v:Value} {b:Nat} {l:List UInt8} {A:Option Addr} {c m rb:Nat}
    (h:E8 J W w5 n₀ Xc X pre p y l' buf v b l A c m rb) (hk:KeepX n₀ Xc w5 w6) (h6:At8 J w6 n₀ Xc X6 pre' p y l' [] (.slice none 0 0) b l A c m):E8 J W w6 n₀ Xc X6 pre' p y l' [] (.slice none 0 0) b l A c m rb:=
  ⟨h6,h.kx.trans hk,h.rbk,h.rn⟩
theorem E8.next {J:(Nat→Prop)→List Pc→World→Prop} {W w5 w6:World} {n₀:Nat} {Xc X:Nat→Prop} {pre pre':List Pc} {p y l':Nat} {buf:List UInt8} {v:Value} {b:Nat} {l:List UInt8} {A:Option Addr} {c m rb:Nat}
    (h:E8 J W w5 n₀ Xc X pre p y l' buf v b l A c m rb) (hj:J X pre' w6) (hk:KeepX n₀ Xc w5 w6) (hs:∀k,X k→w6.heap[k]? = w5.heap[k]?):E8 J W w6 n₀ Xc X pre' p y l' buf v b l A c m rb:=
  ⟨h.a.next hj hk hs,h.kx.trans hk,h.rbk,h.rn⟩
set_option maxHeartbeats 8000000 in
theorem each1_in (n l':Nat) (N:List Pc) (n₀ rb b c m:Nat) (Xc:Nat→Prop) (l:List UInt8) (A:Option Addr) (J Jx:(Nat→Prop)→List Pc→World→Prop) (hF:Fits J) (hY:YW l' N n₀ Xc J Jx) (hl:l.length≤900) (W:World)
    (hJ:J (fun _=>False) [] W) (hrd:Rdr W n₀ Xc b l A c m) (hrb:Bk W rb 118 #[.pointer (some ⟨b,0,none⟩)]) (hrn:rb<n₀∧¬Xc rb) (hn:n₀≤W.heap.size) (R:List Pc) (hR:R=pcsL l) (hN:R<+:N) :
    CallsIn Fence.wide n Tryz.prog 134 #[.func (.yield l') #[] #[],.pointer (some ⟨rb,0,none⟩)] W fun e W'=>(∃v,e=.returned v)∧((∃xs X,xs=R∧J X xs W')∨(∃pre X,pre<+:R∧Jx X pre W')):=by
  obtain⟨i0,hi0,hz0,hz1,hz2⟩:=info_parts Tryz.infoByte
  obtain⟨W2,hW2⟩:∃W2,(W.alloc (.cells #[.func (.yield l') #[] #[]] 150)).alloc (.cells #[.slice none 0 0] 111)=W2:=⟨_,rfl⟩
  have hb2:Below W.heap.size W W2:=by rw[←hW2];exact((Below.refl _ W).alloc (Nat.le_refl _) _).alloc (by simp) _
  have hs2:W2.heap.size=W.heap.size+2:=by rw[←hW2];simp
  have hy2:Bk W2 W.heap.size 150 #[.func (.yield l') #[] #[]]:=by rw[←hW2];exact(Bk.new W _ _).alloc _
  have hp2:Bk W2 (W.heap.size+1) 111 #[.slice none 0 0]:=by rw[←hW2];have:=Bk.new (W.alloc (.cells #[.func (.yield l') #[] #[]] 150)) 111 #[.slice none 0 0];rwa [World.size_alloc] at this
  have hE:E8 J W W2 n₀ Xc (xNew (fun _=>False) W W2) [] (W.heap.size+1) W.heap.size l' [] (.slice none 0 0) b l A c m rb:=
    ⟨⟨hF _ _ _ _ hJ (XG.of_below hb2),⟨hp2,World.ownsRow_nil _ _ _ _,hy2,.inr ⟨by omega,by omega⟩,.inr ⟨by omega,by omega⟩,by intro k hk;simp[Value.ownBlock] at hk⟩,hrd.below hb2 hn,fun k hk=>by
      rcases hk with hk|hk
      ·exact hk.elim
      ·omega,by omega⟩,KeepX.of_below hb2 hn,hrb,hrn⟩
  have H:=Lib.hid (And.intro hE (And.intro hY (And.intro hR hW2)))
  clear hE hY hR hb2 hy2 hp2 hJ hrd hrb hrn hW2
  refine callsIn_of_wp Tryz.func134 rfl trivial ?_ rfl
  simp only[Tryz.ntmps134,List.size_toArray,List.length_cons,List.length_nil,Nat.reduceAdd,Nat.reduceSub,Array.replicate_succ,Array.replicate_zero,List.push_toArray,List.append_toArray,List.nil_append,List.cons_append]
  gi_wp2_with fail
  refine wpIn_wide.2 (wp_scope_straight ((wpIn_wide (n:=n)).1 ?_))
  gi_wp2_with fail
  refine wpIn_label ?_
  gi_wp2_with fail
  rw[H.out.2.2.2]
  gi_loopw [5] (fun i wr=>∃(mm x:Nat) (buf:List UInt8) (pr:List Pc) (X':Nat→Prop) (v:Value),i=.int .i64 x∧x≤l.length∧l.length<mm+x∧buf.length≤x∧R=pr++pcsF l (partsL l) mm x buf∧E8 J W wr n₀ Xc X' pr (W.heap.size+1) W.heap.size l' buf v b l A c m rb) (fun i _=>l.length-(intOf i).toNat)
  case atStart=>exact⟨l.length+1,0,[],[],_,_,rfl,by omega,by omega,by simp,by rw[H.out.2.2.1];rfl,H.out.1⟩
  case round=>
    obtain⟨mm,x,buf,pr,X',v,rfl,hxl,hmm,hbl,hRR,hin⟩:=hrel
    have z0:=hin.box.cell 0
    simp only[List.getElem?_toArray,List.getElem?_cons_zero] at z0
    have z1:=hin.a.rd.hd.cell 0
    simp only[List.getElem?_toArray,List.getElem?_cons_zero] at z1
    by_cases hx:x<l.length
    ·obtain⟨mm,rfl⟩:∃m',mm=m'+1:=⟨mm-1,by omega⟩
     have u1:(x:Int)<(l.length:Int):=by omega
     have u2:(0:Int)≤(x:Int):=by omega
     obtain⟨A1,n1,c1,hv⟩:=own_form' hin.a.it.own
     subst hv
     obtain⟨d,hd⟩:∃d,l[x]? = some d:=⟨_,List.getElem?_eq_getElem hx⟩
     have hgd:l.getD x 0=d:=by rw[List.getD_eq_getElem?_getD,hd];rfl
     obtain⟨hL1,hL2⟩:=List.getElem?_eq_some_iff.1 hd
     have hL:∃h:x<(ByteArray.mk l.toArray).size,(ByteArray.mk l.toArray)[x]'h=d:=⟨hL1,hL2⟩
     obtain⟨hL3,hL4⟩:=hL
     clear hL2 hd
     unfold pcsF at hRR
     rw[if_pos hx] at hRR
     cases hf:findP (partsL l) x with
     | none=>
       rw[hf] at hRR
       simp only at hRR
       rw[hgd] at hRR
       have HR:=Lib.hid (And.intro hRR (And.intro hin hf))
       clear hRR hin hf hgd
       gi_wp2_with (
         (refine⟨trivial,fun h=>by simp[Fence.wide] at h,?_⟩
          gi_at_call 136
          refine(callsIn_wide.2 (at_n _ n₀ b c m x Xc l A hl (by omega) HR.out.2.1.a.rd HR.out.2.1.a.wn)).mono ?_
          rintro e w3 ⟨he,hb3⟩
          rw[HR.out.2.2] at he
          simp only[atN] at he
          subst he
          have H3a:=Lib.hid hb3
          clear hb3))
       obtain⟨wv,hwv⟩:∃wv,wv=w3.alloc (.cells #[.int .i64 0,.int .i64 0,.int .i64 0,.int .i64 0,.bool false] 149):=⟨_,rfl⟩
       rw[←hwv]
       have hE3:=HR.out.2.1.below hF (show Below wr.heap.size wr wv by rw[hwv];exact H3a.out.trans ((Below.alloc (Below.refl _ w3) (Nat.le_refl _) _).mono H3a.out.size))
       have z2:=hE3.box.cell 0
       simp only[List.getElem?_toArray,List.getElem?_cons_zero] at z2
       have z3:=hE3.a.rd.hd.cell 0
       simp only[List.getElem?_toArray,List.getElem?_cons_zero] at z3
       have z4:=hE3.a.it.pb.cell 0
       simp only[List.getElem?_toArray,List.getElem?_cons_zero] at z4
       have hn1:=own_len hE3.a.it.own
       subst hn1
       have hlp:=hE3.a.it.pb.lt
       have hlb:=hE3.a.rd.hd.lt
       have hlr:=hE3.box.lt
       have hrd:=rd_new wv.drew (bvals [d]) 5 1 1 rfl (by omega)
       have H4:=Lib.hid (And.intro ((own_drew hE3.a.it.own).alloc (.cells (bvals [d]).toArray 5)) hrd)
       have H3:=Lib.hid hE3
       have hmix:Tryz.prog.follows .mixedOrders=true:=by kernel_rfl
       clear hE3 hrd hwv
       refine wpIn_region_any hmix ?_
       refine wpAnyIn_ready (rs:=[0,1,5]) (by kernel_rfl) (by simp) ?_
       repeat' (first
         | with_reducible exact AllReadyIn.nil
         | with_reducible refine AllReadyIn.cons rfl (fun K hK=>?_) ?_
         | (revert hK
            intro hK
            first
             | (refine stepIn_append_rd rfl (.tmp 26) (.tmp 33) 111 rfl 0 5 i0 _ 1 1 Tryz.underlying111 hi0 hz0 hz1 hz2 rfl (by decide) (.slice A1 buf.length c1) buf.length (bvals buf) rfl H4.out.1 (.slice (some ⟨wv.heap.size,0,none⟩) 1 1) 1 (wv.heap.size+1) (bvals [d]) rfl H4.out.2 (one_bytes _) (by unfold maxLen;omega) (by omega) (Nat.zero_le _) ?_
                intro v6 w6 hown6 hg6 hv6
                obtain⟨A6,n6,k6,rfl⟩:=own_form' hown6
                have happ:=H3.out.a.app (buf':=buf++[d]) hF (Below.alloc (Below.drew (Below.refl _ wv)) (Nat.le_refl _) _) hg6 (by rw[List.length_append,bvals_snoc];exact hown6) hv6
                have hp6:=((H3.out.a.it.pb.drew).alloc (.cells (bvals [d]).toArray 5)).grown hg6 (own_ne H4.out.1 ((H3.out.a.it.pb.drew).alloc (.cells (bvals [d]).toArray 5)) (by decide)).symm
                have c6:=hp6.cell 0
                simp only[List.getElem?_toArray,List.getElem?_cons_zero] at c6
                have f6:=hp6.frozen 0
                have H6:=Lib.hid happ
                clear hown6 hg6 hv6 happ hp6
                refine hK _ _ ?_
                clear hK K)
             | (go_simp
                refine hK _ _ ?_
                clear hK K))
         | refine wpAnyIn_ready (rs:=[8]) (by decide +kernel) (by simp) ?_
         | refine wpAnyIn_ready (rs:=[9]) (by decide +kernel) (by simp) ?_
         | refine wpAnyIn_ready (rs:=[7]) (by decide +kernel) (by simp) ?_
         | refine wpAnyIn_ready (rs:=[6]) (by decide +kernel) (by simp) ?_
         | refine wpAnyIn_ready (rs:=[4]) (by decide +kernel) (by simp) ?_
         | refine wpAnyIn_ready (rs:=[3]) (by decide +kernel) (by simp) ?_
         | refine wpAnyIn_ready (rs:=[2]) (by decide +kernel) (by simp) ?_
         | refine wpAnyIn_ready (rs:=[5]) (by decide +kernel) (by simp) ?_
         | refine wpAnyIn_ready (rs:=[0,6]) (by decide +kernel) (by simp) ?_
         | refine wpAnyIn_ready (rs:=[0,7]) (by decide +kernel) (by simp) ?_
         | refine wpAnyIn_ready (rs:=[0]) (by decide +kernel) (by simp) ?_
         | refine wpAnyIn_ready (rs:=[4,5]) (by decide +kernel) (by simp) ?_
         | refine wpAnyIn_ready (rs:=[0,4]) (by decide +kernel) (by simp) ?_
         | refine wpAnyIn_ready (rs:=[3,5]) (by decide +kernel) (by simp) ?_
         | refine wpAnyIn_ready (rs:=[0,3]) (by decide +kernel) (by simp) ?_
         | refine wpAnyIn_ready (rs:=[2,5]) (by decide +kernel) (by simp) ?_
         | refine wpAnyIn_ready (rs:=[1]) (by decide +kernel) (by simp) ?_
         | refine wpAnyIn_ready (rs:=[0,2]) (by decide +kernel) (by simp) ?_
         | refine wpAnyIn_ready (rs:=[1,5]) (by decide +kernel) (by simp) ?_
         | refine wpAnyIn_ready (rs:=[0,2,5]) (by decide +kernel) (by simp) ?_
         | refine wpAnyIn_ready (rs:=[0,3,5]) (by decide +kernel) (by simp) ?_
         | refine wpAnyIn_ready (rs:=[0,4,5]) (by decide +kernel) (by simp) ?_
         | refine wpAnyIn_ready (rs:=[0,5]) (by decide +kernel) (by simp) ?_
         | refine wpAnyIn_ready (rs:=[0,1]) (by decide +kernel) (by simp) ?_
         | (refine wpAnyIn_done (by decide +kernel) ?_ _
            gi_wp2_with fail
            exact⟨⟨mm,x+1,buf++[d],pr,_,_,by go_num,by omega,by omega,by simp;omega,HR.out.1,⟨H6.out.1,H3.out.kx.trans H6.out.2,H3.out.rbk,H3.out.rn⟩⟩,by simp[intOf];omega⟩))
     | some q=>
       rw[hf] at hRR
       simp only at hRR
       obtain⟨_,hq1,hq2,hq3,hq4,hq5,hq6,hq7⟩:=findP_some (pl_parts l) hf
       clear hq1 hq2 hgd
       have hn1:=own_len hin.a.it.own
       subst hn1
       have k1:(x:Int)≤(toN q:Int):=by omega
       have k2:(toN q:Int)≤(l.length:Int):=by omega
       by_cases hh:loneB q x=true∨q.mode=14
       ·rcases hh with hlo|h14
        rw[if_pos (.inl hlo)] at hRR
        have hlone:decide (q.mode=12∧toN q=x+1)=true:=hlo
        rotate_left
        rw[if_pos (.inr h14)] at hRR
        have t14:(q.mode==14)=true:=by simpa using h14
        have hlone:decide (q.mode=12∧toN q=x+1)=false:=by rw[decide_eq_false_iff_not];omega
        have hlo:=trivial
        clear h14
        rotate_left
        all_goals (
          obtain⟨S,hS⟩:∃S,S=sub l x (toN q):=⟨_,rfl⟩
          have hext:(ByteArray.mk l.toArray).extract x (toN q)=⟨S.toArray⟩:=by rw[ba_extract,hS];rfl
          have hSl:S.length=toN q-x:=by rw[hS,sub_len hq4]
          rw[←hS] at hRR
          clear hS
          have HR:=Lib.hid (And.intro hRR (And.intro hin (And.intro hf (And.intro hlone trivial))))
          clear hRR hin hf hlone hlo hq5 hq6 hq7
          gi_wp2_with (first
            | (refine⟨trivial,fun h=>by simp[Fence.wide] at h,?_⟩
               gi_at_call 136
               refine(callsIn_wide.2 (at_n _ n₀ b c m x Xc l A hl (by omega) HR.out.2.1.a.rd HR.out.2.1.a.wn)).mono ?_
               rintro e w3 ⟨he,hb3⟩
               rw[HR.out.2.2.1] at he
               simp only[atN] at he
               subst he
               have hE3:=HR.out.2.1.below hF (hb3.trans ((Below.alloc (Below.refl _ w3) (Nat.le_refl _) (.cells #[.int .i64 q.mode,.int .i64 (x:Int),.int .i64 (toN q:Int),.int .i64 q.up,.bool q.op] 149)).mono hb3.size))
               have hB3:=Bk.new w3 149 #[.int .i64 q.mode,.int .i64 (x:Int),.int .i64 (toN q:Int),.int .i64 q.up,.bool q.op]
               obtain⟨p0,p1,p2,p3,p4⟩:=five_of hB3
               have H3:=Lib.hid (And.intro hb3 (And.intro hE3 hB3))
               clear hb3 hE3 hB3)
            | (refine⟨trivial,fun h=>by simp[Fence.wide] at h,?_⟩
               gi_at_call 137
               refine(callsIn_wide.2 (lone_n q.mode q.up x (toN q) q.op _ (by omega) (by omega))).mono ?_
               rintro e w4 ⟨he,hb4⟩
               rw[HR.out.2.2.2.1] at he
               subst he
               have hE4:=H3.out.2.1.below hF hb4
               have hB4:=H3.out.2.2.below hb4 H3.out.2.2.lt
               have hx4:w3.heap.size≠W.heap.size+1:=bk_ne H3.out.2.2 H3.out.2.1.a.it.pb (by decide)
               have hxn4:=(show xNew X' wr (w3.alloc (.cells #[.int .i64 q.mode,.int .i64 (x:Int),.int .i64 (toN q:Int),.int .i64 q.up,.bool q.op] 149)) w3.heap.size from .inr ⟨H3.out.1.size,by rw[World.size_alloc];omega⟩)
               obtain⟨r0,r1,r2,r3,r4⟩:=five_of hB4
               have r5:=hE4.box.cell 0
               have r6:=hE4.a.rd.hd.cell 0
               have r7:=hE4.a.it.pb.cell 0
               have r8:=hE4.a.it.yb.cell 0
               simp only[List.getElem?_toArray,List.getElem?_cons_zero] at r5 r6 r7 r8
               have hlw:=hB4.lt
               have hw34:w3.heap.size<w4.heap.size:=hlw
               have H4:=Lib.hid (And.intro hE4 (And.intro hB4 (And.intro hx4 hxn4)))
               clear hb4 hE4 hB4 hx4 hxn4 hlw))
          refine wpIn_region_hst 0 10 (by kernel_rfl) (by kernel_rfl) fun K hK=>?_
          simp only[List.take_succ_cons,List.take_zero,List.drop_succ_cons,List.drop_zero] at hK ⊢
          refine hK _ _ ?_
          clear hK K
          repeat still_step
          try refine wpStill_nil ?_
          gi_wp2_with (
            (gi_at_builtin
             refine wpListIn_append_str _ rfl (.tmp 62) (.tmp 71) 111 9 rfl 0 5 i0 Tryz.underlying111 Tryz.underlying9 hi0 hz0 hz1 hz2 (.slice A1 buf.length c1) buf.length (bvals buf) rfl (own_drew H4.out.1.a.it.own) ⟨S.toArray⟩ rfl (by show buf.length+S.length≤maxLen;unfold maxLen;omega) (by show buf.length+S.length≤_;omega) (Nat.zero_le _) ?_
             intro v6 w6 hown6 hg6 hv6
             obtain⟨A6,n6,k6,rfl⟩:=own_form' hown6
             have happ:=H4.out.1.a.app (buf':=buf++S) hF (Below.drew (Below.refl _ w4)) hg6 (by rw[List.length_append,bvals_app,←str_cells S];exact hown6) hv6
             have hp6:=(H4.out.1.a.it.pb.drew).grown hg6 (own_ne H4.out.1.a.it.own H4.out.1.a.it.pb (by decide)).symm
             have c6:=hp6.cell 0
             simp only[List.getElem?_toArray,List.getElem?_cons_zero] at c6
             have f6:=hp6.frozen 0
             have H6:=Lib.hid happ
             clear hown6 hg6 hv6 happ hp6))
          exact⟨⟨mm,toN q,buf++S,pr,_,_,rfl,by omega,by omega,by simp;omega,HR.out.1,⟨H6.out.1,H4.out.1.kx.trans H6.out.2,H4.out.1.rbk,H4.out.1.rn⟩⟩,by simp[intOf];omega⟩)
       ·have hlo:¬loneB q x=true:=fun h=>hh (.inl h)
        have h14:¬q.mode=14:=fun h=>hh (.inr h)
        clear hh
        have hl2:loneB q x=false:=by simpa using hlo
        have hlone:decide (q.mode=12∧toN q=x+1)=false:=hl2
        clear hl2
        rw[if_neg (by rintro (h|h);exact hlo h;exact h14 h)] at hRR
        have t14:(q.mode==14)=false:=by simpa using h14
        clear h14
        by_cases h13:q.mode=13
        ·rw[if_pos h13] at hRR
         have t13:(q.mode==13)=true:=by simpa using h13
         have hq8:=hq7 h13
         obtain⟨S,hS⟩:∃S,S=sub l (x+1) (toN q):=⟨_,rfl⟩
         rw[←hS] at hRR
         have Hm:=Lib.hid h13
         clear h13
         by_cases hnS:S=[]∨S=[10]
         ·rw[if_pos hnS] at hRR
          have hnt:neT S=false:=by unfold neT;rw[decide_eq_false_iff_not];rintro ⟨a,b⟩;rcases hnS with h|h;exact a h;exact b h
          have HS:=Lib.hid (And.intro hS.symm hnt)
          clear hS hnS hnt
          have HR:=Lib.hid (And.intro hRR (And.intro hin (And.intro hf (And.intro hlone trivial))))
          clear hRR hin hf hlone hlo hq5 hq6 hq7
          gi_wp2_with (first
            | (refine⟨trivial,fun h=>by simp[Fence.wide] at h,?_⟩
               gi_at_call 136
               refine(callsIn_wide.2 (at_n _ n₀ b c m x Xc l A hl (by omega) HR.out.2.1.a.rd HR.out.2.1.a.wn)).mono ?_
               rintro e w3 ⟨he,hb3⟩
               rw[HR.out.2.2.1] at he
               simp only[atN] at he
               subst he
               have hE3:=HR.out.2.1.below hF (hb3.trans ((Below.alloc (Below.refl _ w3) (Nat.le_refl _) (.cells #[.int .i64 q.mode,.int .i64 (x:Int),.int .i64 (toN q:Int),.int .i64 q.up,.bool q.op] 149)).mono hb3.size))
               have hB3:=Bk.new w3 149 #[.int .i64 q.mode,.int .i64 (x:Int),.int .i64 (toN q:Int),.int .i64 q.up,.bool q.op]
               obtain⟨p0,p1,p2,p3,p4⟩:=five_of hB3
               have H3:=Lib.hid (And.intro hb3 (And.intro hE3 hB3))
               clear hb3 hE3 hB3)
            | (refine⟨trivial,fun h=>by simp[Fence.wide] at h,?_⟩
               gi_at_call 137
               refine(callsIn_wide.2 (lone_n q.mode q.up x (toN q) q.op _ (by omega) (by omega))).mono ?_
               rintro e w4 ⟨he,hb4⟩
               rw[HR.out.2.2.2.1] at he
               subst he
               have hE4:=H3.out.2.1.below hF hb4
               have hB4:=H3.out.2.2.below hb4 H3.out.2.2.lt
               have hx4:w3.heap.size≠W.heap.size+1:=bk_ne H3.out.2.2 H3.out.2.1.a.it.pb (by decide)
               have hxn4:=(show xNew X' wr (w3.alloc (.cells #[.int .i64 q.mode,.int .i64 (x:Int),.int .i64 (toN q:Int),.int .i64 q.up,.bool q.op] 149)) w3.heap.size from .inr ⟨H3.out.1.size,by rw[World.size_alloc];omega⟩)
               have hB4:=hB4
               rw[Hm.out] at hB4
               obtain⟨r0,r1,r2,r3,r4⟩:=five_of hB4
               have r5:=hE4.box.cell 0
               have r6:=hE4.a.rd.hd.cell 0
               have r7:=hE4.a.it.pb.cell 0
               have r8:=hE4.a.it.yb.cell 0
               simp only[List.getElem?_toArray,List.getElem?_cons_zero] at r5 r6 r7 r8
               have hlw:=hB4.lt
               have hw34:w3.heap.size<w4.heap.size:=hlw
               have H4:=Lib.hid (And.intro hE4 (And.intro hB4 (And.intro hx4 hxn4)))
               clear hb4 hE4 hB4 hx4 hxn4 hlw)
            | (refine⟨trivial,fun h=>by simp[Fence.wide] at h,?_⟩
               gi_at_call 138
               refine(callsIn_wide.2 (quoted_e q.up x (toN q) q.op _ n₀ b c m Xc l A hl H4.out.1.a.rd H4.out.1.a.wn hq3 hq4 hq8)).mono ?_
               rintro e w5 ⟨he,hb5⟩
               rw[HS.out.1] at he
               rw[HS.out.2] at he
               subst he
               have hE5:=H4.out.1.below hF (hb5.trans ((Below.alloc (Below.refl _ w5) (Nat.le_refl _) (.cells #[.bool false,.bool true,.string ⟨S.toArray⟩] 122)).mono hb5.size))
               have hB5:=Bk.new w5 122 #[.bool false,.bool true,.string ⟨S.toArray⟩]
               have hx5:w5.heap.size≠W.heap.size+1:=bk_ne hB5 hE5.a.it.pb (by decide)
               obtain⟨s0,s1,s2,_⟩:=hB5.three
               have H5:=Lib.hid (And.intro hE5 (And.intro hB5 (And.intro hx5 hb5)))
               clear hb5 hE5 hB5 hx5)
            | ((with_reducible refine⟨fun f h=>?_,?_⟩);cases h))
          all_goals first
            | exact absurd (by assumption) (undef_bool _)
            | exact⟨⟨mm,toN q,buf,pr,_,_,rfl,by omega,by omega,by omega,HR.out.1,H5.out.1⟩,by simp[intOf];omega⟩
         ·rw[if_neg hnS] at hRR
          have hnt:neT S=true:=by unfold neT;rw[decide_eq_true_eq];exact⟨fun h=>hnS (.inl h),fun h=>hnS (.inr h)⟩
          have HS:=Lib.hid (And.intro hS.symm hnt)
          clear hS hnS hnt
          have HR:=Lib.hid (And.intro hRR (And.intro hin (And.intro hf (And.intro hlone trivial))))
          clear hRR hin hf hlone hlo hq5 hq6 hq7
          gi_wp2_with (first
            | (refine⟨trivial,fun h=>by simp[Fence.wide] at h,?_⟩
               gi_at_call 136
               refine(callsIn_wide.2 (at_n _ n₀ b c m x Xc l A hl (by omega) HR.out.2.1.a.rd HR.out.2.1.a.wn)).mono ?_
               rintro e w3 ⟨he,hb3⟩
               rw[HR.out.2.2.1] at he
               simp only[atN] at he
               subst he
               have hE3:=HR.out.2.1.below hF (hb3.trans ((Below.alloc (Below.refl _ w3) (Nat.le_refl _) (.cells #[.int .i64 q.mode,.int .i64 (x:Int),.int .i64 (toN q:Int),.int .i64 q.up,.bool q.op] 149)).mono hb3.size))
               have hB3:=Bk.new w3 149 #[.int .i64 q.mode,.int .i64 (x:Int),.int .i64 (toN q:Int),.int .i64 q.up,.bool q.op]
               obtain⟨p0,p1,p2,p3,p4⟩:=five_of hB3
               have H3:=Lib.hid (And.intro hb3 (And.intro hE3 hB3))
               clear hb3 hE3 hB3)
            | (refine⟨trivial,fun h=>by simp[Fence.wide] at h,?_⟩
               gi_at_call 137
               refine(callsIn_wide.2 (lone_n q.mode q.up x (toN q) q.op _ (by omega) (by omega))).mono ?_
               rintro e w4 ⟨he,hb4⟩
               rw[HR.out.2.2.2.1] at he
               subst he
               have hE4:=H3.out.2.1.below hF hb4
               have hB4:=H3.out.2.2.below hb4 H3.out.2.2.lt
               have hx4:w3.heap.size≠W.heap.size+1:=bk_ne H3.out.2.2 H3.out.2.1.a.it.pb (by decide)
               have hxn4:=(show xNew X' wr (w3.alloc (.cells #[.int .i64 q.mode,.int .i64 (x:Int),.int .i64 (toN q:Int),.int .i64 q.up,.bool q.op] 149)) w3.heap.size from .inr ⟨H3.out.1.size,by rw[World.size_alloc];omega⟩)
               have hB4:=hB4
               rw[Hm.out] at hB4
               obtain⟨r0,r1,r2,r3,r4⟩:=five_of hB4
               have r5:=hE4.box.cell 0
               have r6:=hE4.a.rd.hd.cell 0
               have r7:=hE4.a.it.pb.cell 0
               have r8:=hE4.a.it.yb.cell 0
               simp only[List.getElem?_toArray,List.getElem?_cons_zero] at r5 r6 r7 r8
               have hlw:=hB4.lt
               have hw34:w3.heap.size<w4.heap.size:=hlw
               have H4:=Lib.hid (And.intro hE4 (And.intro hB4 (And.intro hx4 hxn4)))
               clear hb4 hE4 hB4 hx4 hxn4 hlw)
            | (refine⟨trivial,fun h=>by simp[Fence.wide] at h,?_⟩
               gi_at_call 138
               refine(callsIn_wide.2 (quoted_e q.up x (toN q) q.op _ n₀ b c m Xc l A hl H4.out.1.a.rd H4.out.1.a.wn hq3 hq4 hq8)).mono ?_
               rintro e w5 ⟨he,hb5⟩
               rw[HS.out.1] at he
               rw[HS.out.2] at he
               subst he
               have hE5:=H4.out.1.below hF (hb5.trans ((Below.alloc (Below.refl _ w5) (Nat.le_refl _) (.cells #[.bool false,.bool true,.string ⟨S.toArray⟩] 122)).mono hb5.size))
               have hB5:=Bk.new w5 122 #[.bool false,.bool true,.string ⟨S.toArray⟩]
               have hx5:w5.heap.size≠W.heap.size+1:=bk_ne hB5 hE5.a.it.pb (by decide)
               obtain⟨s0,s1,s2,_⟩:=hB5.three
               have H5:=Lib.hid (And.intro hE5 (And.intro hB5 (And.intro hx5 hb5)))
               clear hb5 hE5 hB5 hx5))
          refine⟨trivial,fun h=>by simp[Fence.wide] at h,?_⟩
          refine(flush_in (n-1) l' N n₀ (W.heap.size+1) W.heap.size b c m Xc _ l A J Jx hF H.out.2.1 _ pr buf _ H5.out.1.a (fun hb=>List.IsPrefix.trans ⟨⟨false,true,S⟩::pcsF l (partsL l) mm (toN q) [],by rw[HR.out.1];simp[flP,hb]⟩ hN)).mono ?_
          rintro e W6 (⟨rfl,X6,hx6,hs6,hk6,h6⟩|⟨rfl,X6,h6⟩)
          ·have hE6:=H5.out.1.flush hk6 h6
           have s8:=hE6.a.it.yb.cell 0
           simp only[List.getElem?_toArray,List.getElem?_cons_zero] at s8
           have hk6':=(hs6 w5.heap.size (.inr ⟨H5.out.2.2.2.size,by rw[World.size_alloc];omega⟩) H5.out.2.2.1).trans H5.out.2.1
           obtain⟨s0,s1,s2,_⟩:=(show Bk W6 w5.heap.size 122 #[.bool false,.bool true,.string ⟨S.toArray⟩] from hk6').three
           clear hk6'
           obtain⟨fn8,tmps8,assign8,body8,hy,hRd⟩:=H.out.2.1.one (x:=⟨false,true,S⟩) hE6.a.j (List.IsPrefix.trans ⟨pcsF l (partsL l) mm (toN q) [],by rw[HR.out.1];simp⟩ hN) (n-1)
           have hr8:=Lib.hid hRd
           simp only[encP] at hy
           have hy8:=Lib.hid hy
           have H6:=Lib.hid hE6
           clear hRd hy hx6 hs6 hk6 h6 hE6
           gi_wp2_with (first
             | (rw[hy8.out]))
           refine⟨fun h=>by simp[Fence.wide] at h,?_⟩
           refine hr8.out.mono ?_
           rintro e W7 ⟨b8,rfl,hj7,hjx7,hk7,hs7⟩
           cases b8
           ·have H8:=Lib.hid (hjx7 rfl)
            clear hj7 hjx7 hk7 hs7
            gi_wp2_with fail
            rw[Exit.noGoto_ret]
            refine bodyPost_ret (results_none rfl _ _ _) rfl ?_
            exact⟨⟨_,rfl⟩,.inr ⟨_,_,by rw[HR.out.1];exact⟨pcsF l (partsL l) mm (toN q) [],by simp⟩,H8.out⟩⟩
           ·have H8:=Lib.hid (H6.out.next (hj7 rfl) hk7 hs7)
            clear hj7 hjx7 hk7 hs7
            gi_wp2_with fail
            exact⟨⟨mm,toN q,[],_,_,_,rfl,by omega,by omega,by simp,by rw[HR.out.1];simp[flP],H8.out⟩,by simp[intOf];omega⟩
          ·have H6:=Lib.hid h6
           clear h6
           gi_wp2_with (first
             | ((with_reducible refine⟨fun f h=>?_,?_⟩);cases h))
           rw[Exit.noGoto_ret]
           refine bodyPost_ret (results_none rfl _ _ _) rfl ?_
           exact⟨⟨_,rfl⟩,.inr ⟨_,_,by rw[HR.out.1];exact⟨⟨false,true,S⟩::pcsF l (partsL l) mm (toN q) [],by simp⟩,H6.out⟩⟩
        ·rw[if_neg h13] at hRR
         have t13:(q.mode==13)=false:=by simpa using h13
         clear h13
         by_cases h4:q.mode=4
         ·rw[if_pos h4] at hRR
          have t4:(q.mode==4)=true:=by simpa using h4
          have hq8:=hq5 (by omega)
          obtain⟨S,hS⟩:∃S,S=sub l (x+1) (endQ q):=⟨_,rfl⟩
          rw[←hS] at hRR
          have Hm:=Lib.hid h4
          have HS:=Lib.hid (And.intro (show sub l (x+1) (endN (toN q) q.op)=S from hS.symm) trivial)
          clear h4 hS
          have HR:=Lib.hid (And.intro hRR (And.intro hin (And.intro hf (And.intro hlone trivial))))
          clear hRR hin hf hlone hlo hq5 hq6 hq7
          gi_wp2_with (first
            | (refine⟨trivial,fun h=>by simp[Fence.wide] at h,?_⟩
               gi_at_call 136
               refine(callsIn_wide.2 (at_n _ n₀ b c m x Xc l A hl (by omega) HR.out.2.1.a.rd HR.out.2.1.a.wn)).mono ?_
               rintro e w3 ⟨he,hb3⟩
               rw[HR.out.2.2.1] at he
               simp only[atN] at he
               subst he
               have hE3:=HR.out.2.1.below hF (hb3.trans ((Below.alloc (Below.refl _ w3) (Nat.le_refl _) (.cells #[.int .i64 q.mode,.int .i64 (x:Int),.int .i64 (toN q:Int),.int .i64 q.up,.bool q.op] 149)).mono hb3.size))
               have hB3:=Bk.new w3 149 #[.int .i64 q.mode,.int .i64 (x:Int),.int .i64 (toN q:Int),.int .i64 q.up,.bool q.op]
               obtain⟨p0,p1,p2,p3,p4⟩:=five_of hB3
               have H3:=Lib.hid (And.intro hb3 (And.intro hE3 hB3))
               clear hb3 hE3 hB3)
            | (refine⟨trivial,fun h=>by simp[Fence.wide] at h,?_⟩
               gi_at_call 137
               refine(callsIn_wide.2 (lone_n q.mode q.up x (toN q) q.op _ (by omega) (by omega))).mono ?_
               rintro e w4 ⟨he,hb4⟩
               rw[HR.out.2.2.2.1] at he
               subst he
               have hE4:=H3.out.2.1.below hF hb4
               have hB4:=H3.out.2.2.below hb4 H3.out.2.2.lt
               have hx4:w3.heap.size≠W.heap.size+1:=bk_ne H3.out.2.2 H3.out.2.1.a.it.pb (by decide)
               have hxn4:=(show xNew X' wr (w3.alloc (.cells #[.int .i64 q.mode,.int .i64 (x:Int),.int .i64 (toN q:Int),.int .i64 q.up,.bool q.op] 149)) w3.heap.size from .inr ⟨H3.out.1.size,by rw[World.size_alloc];omega⟩)
               have hB4:=hB4
               rw[Hm.out] at hB4
               obtain⟨r0,r1,r2,r3,r4⟩:=five_of hB4
               have r5:=hE4.box.cell 0
               have r6:=hE4.a.rd.hd.cell 0
               have r7:=hE4.a.it.pb.cell 0
               have r8:=hE4.a.it.yb.cell 0
               simp only[List.getElem?_toArray,List.getElem?_cons_zero] at r5 r6 r7 r8
               have hlw:=hB4.lt
               have hw34:w3.heap.size<w4.heap.size:=hlw
               have H4:=Lib.hid (And.intro hE4 (And.intro hB4 (And.intro hx4 hxn4)))
               clear hb4 hE4 hB4 hx4 hxn4 hlw)
            | (refine⟨trivial,fun h=>by simp[Fence.wide] at h,?_⟩
               gi_at_call 138
               refine(callsIn_wide.2 (quoted_s q.up x (toN q) q.op _ n₀ b c m Xc l A hl H4.out.1.a.rd H4.out.1.a.wn hq3 hq4 hq8)).mono ?_
               rintro e w5 ⟨he,hb5⟩
               rw[HS.out.1] at he
               subst he
               have hE5:=H4.out.1.below hF (hb5.trans ((Below.alloc (Below.refl _ w5) (Nat.le_refl _) (.cells #[.bool false,.bool true,.string ⟨S.toArray⟩] 122)).mono hb5.size))
               have hB5:=Bk.new w5 122 #[.bool false,.bool true,.string ⟨S.toArray⟩]
               have hx5:w5.heap.size≠W.heap.size+1:=bk_ne hB5 hE5.a.it.pb (by decide)
               obtain⟨s0,s1,s2,_⟩:=hB5.three
               have H5:=Lib.hid (And.intro hE5 (And.intro hB5 (And.intro hx5 hb5)))
               clear hb5 hE5 hB5 hx5))
          refine⟨trivial,fun h=>by simp[Fence.wide] at h,?_⟩
          refine(flush_in (n-1) l' N n₀ (W.heap.size+1) W.heap.size b c m Xc _ l A J Jx hF H.out.2.1 _ pr buf _ H5.out.1.a (fun hb=>List.IsPrefix.trans ⟨⟨false,true,S⟩::pcsF l (partsL l) mm (toN q) [],by rw[HR.out.1];simp[flP,hb]⟩ hN)).mono ?_
          rintro e W6 (⟨rfl,X6,hx6,hs6,hk6,h6⟩|⟨rfl,X6,h6⟩)
          ·have hE6:=H5.out.1.flush hk6 h6
           have s8:=hE6.a.it.yb.cell 0
           simp only[List.getElem?_toArray,List.getElem?_cons_zero] at s8
           have hk6':=(hs6 w5.heap.size (.inr ⟨H5.out.2.2.2.size,by rw[World.size_alloc];omega⟩) H5.out.2.2.1).trans H5.out.2.1
           obtain⟨s0,s1,s2,_⟩:=(show Bk W6 w5.heap.size 122 #[.bool false,.bool true,.string ⟨S.toArray⟩] from hk6').three
           clear hk6'
           obtain⟨fn8,tmps8,assign8,body8,hy,hRd⟩:=H.out.2.1.one (x:=⟨false,true,S⟩) hE6.a.j (List.IsPrefix.trans ⟨pcsF l (partsL l) mm (toN q) [],by rw[HR.out.1];simp⟩ hN) (n-1)
           have hr8:=Lib.hid hRd
           simp only[encP] at hy
           have hy8:=Lib.hid hy
           have H6:=Lib.hid hE6
           clear hRd hy hx6 hs6 hk6 h6 hE6
           gi_wp2_with (first
             | (rw[hy8.out]))
           refine⟨fun h=>by simp[Fence.wide] at h,?_⟩
           refine hr8.out.mono ?_
           rintro e W7 ⟨b8,rfl,hj7,hjx7,hk7,hs7⟩
           cases b8
           ·have H8:=Lib.hid (hjx7 rfl)
            clear hj7 hjx7 hk7 hs7
            gi_wp2_with fail
            rw[Exit.noGoto_ret]
            refine bodyPost_ret (results_none rfl _ _ _) rfl ?_
            exact⟨⟨_,rfl⟩,.inr ⟨_,_,by rw[HR.out.1];exact⟨pcsF l (partsL l) mm (toN q) [],by simp⟩,H8.out⟩⟩
           ·have H8:=Lib.hid (H6.out.next (hj7 rfl) hk7 hs7)
            clear hj7 hjx7 hk7 hs7
            gi_wp2_with fail
            exact⟨⟨mm,toN q,[],_,_,_,rfl,by omega,by omega,by simp,by rw[HR.out.1];simp[flP],H8.out⟩,by simp[intOf];omega⟩
          ·have H6:=Lib.hid h6
           clear h6
           gi_wp2_with (first
             | ((with_reducible refine⟨fun f h=>?_,?_⟩);cases h))
           rw[Exit.noGoto_ret]
           refine bodyPost_ret (results_none rfl _ _ _) rfl ?_
           exact⟨⟨_,rfl⟩,.inr ⟨_,_,by rw[HR.out.1];exact⟨⟨false,true,S⟩::pcsF l (partsL l) mm (toN q) [],by simp⟩,H6.out⟩⟩
         ·rw[if_neg h4] at hRR
          have t4:(q.mode==4)=false:=by simpa using h4
          clear h4
          by_cases h5:q.mode=5
          ·rw[if_pos h5] at hRR
           have t5:(q.mode==5)=true:=by simpa using h5
           have hq8:=hq5 (by omega)
           have Hm:=Lib.hid h5
           clear h5
           have HR:=Lib.hid (And.intro hRR (And.intro hin (And.intro hf (And.intro hlone trivial))))
           clear hRR hin hf hlone hlo hq5 hq6 hq7
           gi_wp2_with (first
             | (refine⟨trivial,fun h=>by simp[Fence.wide] at h,?_⟩
                gi_at_call 136
                refine(callsIn_wide.2 (at_n _ n₀ b c m x Xc l A hl (by omega) HR.out.2.1.a.rd HR.out.2.1.a.wn)).mono ?_
                rintro e w3 ⟨he,hb3⟩
                rw[HR.out.2.2.1] at he
                simp only[atN] at he
                subst he
                have hE3:=HR.out.2.1.below hF (hb3.trans ((Below.alloc (Below.refl _ w3) (Nat.le_refl _) (.cells #[.int .i64 q.mode,.int .i64 (x:Int),.int .i64 (toN q:Int),.int .i64 q.up,.bool q.op] 149)).mono hb3.size))
                have hB3:=Bk.new w3 149 #[.int .i64 q.mode,.int .i64 (x:Int),.int .i64 (toN q:Int),.int .i64 q.up,.bool q.op]
                obtain⟨p0,p1,p2,p3,p4⟩:=five_of hB3
                have H3:=Lib.hid (And.intro hb3 (And.intro hE3 hB3))
                clear hb3 hE3 hB3)
             | (refine⟨trivial,fun h=>by simp[Fence.wide] at h,?_⟩
                gi_at_call 137
                refine(callsIn_wide.2 (lone_n q.mode q.up x (toN q) q.op _ (by omega) (by omega))).mono ?_
                rintro e w4 ⟨he,hb4⟩
                rw[HR.out.2.2.2.1] at he
                subst he
                have hE4:=H3.out.2.1.below hF hb4
                have hB4:=H3.out.2.2.below hb4 H3.out.2.2.lt
                have hx4:w3.heap.size≠W.heap.size+1:=bk_ne H3.out.2.2 H3.out.2.1.a.it.pb (by decide)
                have hxn4:=(show xNew X' wr (w3.alloc (.cells #[.int .i64 q.mode,.int .i64 (x:Int),.int .i64 (toN q:Int),.int .i64 q.up,.bool q.op] 149)) w3.heap.size from .inr ⟨H3.out.1.size,by rw[World.size_alloc];omega⟩)
                have hB4:=hB4
                rw[Hm.out] at hB4
                obtain⟨r0,r1,r2,r3,r4⟩:=five_of hB4
                have r5:=hE4.box.cell 0
                have r6:=hE4.a.rd.hd.cell 0
                have r7:=hE4.a.it.pb.cell 0
                have r8:=hE4.a.it.yb.cell 0
                simp only[List.getElem?_toArray,List.getElem?_cons_zero] at r5 r6 r7 r8
                have hlw:=hB4.lt
                have hw34:w3.heap.size<w4.heap.size:=hlw
                have H4:=Lib.hid (And.intro hE4 (And.intro hB4 (And.intro hx4 hxn4)))
                clear hb4 hE4 hB4 hx4 hxn4 hlw))
           refine⟨trivial,fun h=>by simp[Fence.wide] at h,?_⟩
           refine(flush_in (n-1) l' N n₀ (W.heap.size+1) W.heap.size b c m Xc _ l A J Jx hF H.out.2.1 _ pr buf _ H4.out.1.a (fun hb=>List.IsPrefix.trans ⟨dblF l (partsL l) (endQ q) (l.length+1) (x+1) [] false++pcsF l (partsL l) mm (toN q) [],by rw[HR.out.1];simp[flP,hb]⟩ hN)).mono ?_
           rintro e W6 (⟨rfl,X6,hx6,hs6,hk6,h6⟩|⟨rfl,X6,h6⟩)
           ·have hE6:=H4.out.1.flush hk6 h6
            have s8:=hE6.a.it.yb.cell 0
            have s7:=hE6.box.cell 0
            simp only[List.getElem?_toArray,List.getElem?_cons_zero] at s7 s8
            have hB6:=(hs6 w3.heap.size (.inl H4.out.2.2.2) H4.out.2.2.1).trans H4.out.2.1
            obtain⟨s0,s1,s2,s3,s4⟩:=five_of (show Bk W6 w3.heap.size 149 #[.int .i64 5,.int .i64 (x:Int),.int .i64 (toN q:Int),.int .i64 q.up,.bool q.op] from hB6)
            have H6:=Lib.hid hE6
            clear hx6 hs6 hk6 h6 hE6 hB6
            gi_wp2_with fail
            refine⟨trivial,fun h=>by simp[Fence.wide] at h,?_⟩
            refine(double_in _ l' N n₀ b c m Xc X6 l A J Jx hF H.out.2.1 hl W6 (pr++flP buf) q.up x (toN q) q.op H6.out.a.in8 hq3 hq4 hq8 (pr++flP buf++dblF l (partsL l) (endN (toN q) q.op) (l.length+1) (x+1) [] false) rfl (List.IsPrefix.trans ⟨pcsF l (partsL l) mm (toN q) [],by rw[HR.out.1,endQ_N];simp⟩ hN)).mono ?_
            rintro e W7 (⟨rfl,X7,hx7,hs7,hk7,h7⟩|⟨rfl,X7,ys,hys,h7⟩)
            ·have H8:=Lib.hid (E8.flush H6.out hk7 (H6.out.a.of_in8 hx7 hs7 h7))
             clear hx7 hs7 hk7 h7
             gi_wp2_with fail
             exact⟨⟨mm,toN q,[],_,_,_,rfl,by omega,by omega,by simp,by rw[HR.out.1,endQ_N];simp,H8.out⟩,by simp[intOf];omega⟩
            ·have H8:=Lib.hid (And.intro hys h7)
             clear hys h7
             gi_wp2_with fail
             rw[Exit.noGoto_ret]
             refine bodyPost_ret (results_none rfl _ _ _) rfl ?_
             exact⟨⟨_,rfl⟩,.inr ⟨_,_,by rw[HR.out.1,endQ_N];exact H8.out.1.trans ⟨pcsF l (partsL l) mm (toN q) [],by simp⟩,H8.out.2⟩⟩
           ·have H6:=Lib.hid h6
            clear h6
            gi_wp2_with (first
              | (refine⟨trivial,?_⟩))
            rw[Exit.noGoto_ret]
            refine bodyPost_ret (results_none rfl _ _ _) rfl ?_
            exact⟨⟨_,rfl⟩,.inr ⟨_,_,by rw[HR.out.1];exact⟨dblF l (partsL l) (endQ q) (l.length+1) (x+1) [] false++pcsF l (partsL l) mm (toN q) [],by simp⟩,H6.out⟩⟩
          ·rw[if_neg h5] at hRR
           have t5:(q.mode==5)=false:=by simpa using h5
           clear h5
           obtain⟨S,hS⟩:∃S,S=sub l x (toN q):=⟨_,rfl⟩
           have hext:(ByteArray.mk l.toArray).extract x (toN q)=⟨S.toArray⟩:=by rw[ba_extract,hS];rfl
           rw[←hS] at hRR
           clear hS
           have HR:=Lib.hid (And.intro hRR (And.intro hin (And.intro hf (And.intro hlone trivial))))
           clear hRR hin hf hlone hlo hq5 hq6 hq7
           gi_wp2_with (first
             | (refine⟨trivial,fun h=>by simp[Fence.wide] at h,?_⟩
                gi_at_call 136
                refine(callsIn_wide.2 (at_n _ n₀ b c m x Xc l A hl (by omega) HR.out.2.1.a.rd HR.out.2.1.a.wn)).mono ?_
                rintro e w3 ⟨he,hb3⟩
                rw[HR.out.2.2.1] at he
                simp only[atN] at he
                subst he
                have hE3:=HR.out.2.1.below hF (hb3.trans ((Below.alloc (Below.refl _ w3) (Nat.le_refl _) (.cells #[.int .i64 q.mode,.int .i64 (x:Int),.int .i64 (toN q:Int),.int .i64 q.up,.bool q.op] 149)).mono hb3.size))
                have hB3:=Bk.new w3 149 #[.int .i64 q.mode,.int .i64 (x:Int),.int .i64 (toN q:Int),.int .i64 q.up,.bool q.op]
                obtain⟨p0,p1,p2,p3,p4⟩:=five_of hB3
                have H3:=Lib.hid (And.intro hb3 (And.intro hE3 hB3))
                clear hb3 hE3 hB3)
             | (refine⟨trivial,fun h=>by simp[Fence.wide] at h,?_⟩
                gi_at_call 137
                refine(callsIn_wide.2 (lone_n q.mode q.up x (toN q) q.op _ (by omega) (by omega))).mono ?_
                rintro e w4 ⟨he,hb4⟩
                rw[HR.out.2.2.2.1] at he
                subst he
                have hE4:=H3.out.2.1.below hF hb4
                have hB4:=H3.out.2.2.below hb4 H3.out.2.2.lt
                have hx4:w3.heap.size≠W.heap.size+1:=bk_ne H3.out.2.2 H3.out.2.1.a.it.pb (by decide)
                have hxn4:=(show xNew X' wr (w3.alloc (.cells #[.int .i64 q.mode,.int .i64 (x:Int),.int .i64 (toN q:Int),.int .i64 q.up,.bool q.op] 149)) w3.heap.size from .inr ⟨H3.out.1.size,by rw[World.size_alloc];omega⟩)
                obtain⟨r0,r1,r2,r3,r4⟩:=five_of hB4
                have r5:=hE4.box.cell 0
                have r6:=hE4.a.rd.hd.cell 0
                have r7:=hE4.a.it.pb.cell 0
                have r8:=hE4.a.it.yb.cell 0
                simp only[List.getElem?_toArray,List.getElem?_cons_zero] at r5 r6 r7 r8
                have hlw:=hB4.lt
                have hw34:w3.heap.size<w4.heap.size:=hlw
                have H4:=Lib.hid (And.intro hE4 (And.intro hB4 (And.intro hx4 hxn4)))
                clear hb4 hE4 hB4 hx4 hxn4 hlw))
           refine wpIn_region_hst 3 14 (by kernel_rfl) (by kernel_rfl) fun KH hKH=>?_
           simp only[List.take_succ_cons,List.take_zero,List.drop_succ_cons,List.drop_zero] at hKH ⊢
           gi_wp2_with fail
           have hE5:=H4.out.1.below hF (Below.drew (Below.refl _ w4))
           have H5:=Lib.hid hE5
           clear hE5
           refine⟨trivial,fun h=>by simp[Fence.wide] at h,?_⟩
           refine(flush_in (n-1) l' N n₀ (W.heap.size+1) W.heap.size b c m Xc _ l A J Jx hF H.out.2.1 _ pr buf _ H5.out.a (fun hb=>List.IsPrefix.trans ⟨⟨true,false,S⟩::pcsF l (partsL l) mm (toN q) [],by rw[HR.out.1];simp[flP,hb]⟩ hN)).mono ?_
           rintro e W6 (⟨rfl,X6,hx6,hs6,hk6,h6⟩|⟨rfl,X6,h6⟩)
           ·have hE6:=H5.out.flush hk6 h6
            have s8:=hE6.a.it.yb.cell 0
            have s7:=hE6.box.cell 0
            have s6:=hE6.a.rd.hd.cell 0
            simp only[List.getElem?_toArray,List.getElem?_cons_zero] at s6 s7 s8
            have hB6:=(hs6 w3.heap.size (.inl (.inl H4.out.2.2.2)) H4.out.2.2.1).trans H4.out.2.1.drew
            obtain⟨s0,s1,s2,s3,s4⟩:=five_of (show Bk W6 w3.heap.size 149 #[.int .i64 q.mode,.int .i64 (x:Int),.int .i64 (toN q:Int),.int .i64 q.up,.bool q.op] from hB6)
            obtain⟨fn8,tmps8,assign8,body8,hy,hRd⟩:=H.out.2.1.one (x:=⟨true,false,S⟩) hE6.a.j (List.IsPrefix.trans ⟨pcsF l (partsL l) mm (toN q) [],by rw[HR.out.1];simp⟩ hN) (n-1)
            have hr8:=Lib.hid hRd
            simp only[encP] at hy
            have hy8:=Lib.hid hy
            have H6:=Lib.hid hE6
            clear hRd hy hx6 hs6 hk6 h6 hE6 hB6
            gi_wp2_with fail
            rw[hstK_normal]
            refine hKH _ _ ?_
            clear hKH KH
            iterate 11 still_step
            refine wpStill_nil ?_
            gi_wp2_with (first
              | (rw[hy8.out]))
            refine⟨fun h=>by simp[Fence.wide] at h,?_⟩
            refine hr8.out.mono ?_
            rintro e W7 ⟨b8,rfl,hj7,hjx7,hk7,hs7⟩
            cases b8
            ·have H8:=Lib.hid (hjx7 rfl)
             clear hj7 hjx7 hk7 hs7
             gi_wp2_with fail
             rw[Exit.noGoto_ret]
             refine bodyPost_ret (results_none rfl _ _ _) rfl ?_
             exact⟨⟨_,rfl⟩,.inr ⟨_,_,by rw[HR.out.1];exact⟨pcsF l (partsL l) mm (toN q) [],by simp⟩,H8.out⟩⟩
            ·have H8:=Lib.hid (H6.out.next (hj7 rfl) hk7 hs7)
             clear hj7 hjx7 hk7 hs7
             gi_wp2_with fail
             exact⟨⟨mm,toN q,[],_,_,_,rfl,by omega,by omega,by simp,by rw[HR.out.1];simp,H8.out⟩,by simp[intOf];omega⟩
           ·have H6:=Lib.hid h6
            clear h6
            gi_wp2_with fail
            rw[hstK_normal]
            refine hKH _ _ ?_
            clear hKH KH
            iterate 11
              with_reducible refine wpStill_step (fun K hK=>?_)
              go_simp
              refine hK _ ?_
              clear hK K
            with_reducible refine wpStill_nil ?_
            gi_wp2_with (first
              | ((with_reducible refine⟨fun f h=>?_,?_⟩);cases h))
            rw[Exit.noGoto_ret]
            refine bodyPost_ret (results_none rfl _ _ _) rfl ?_
            exact⟨⟨_,rfl⟩,.inr ⟨_,_,by rw[HR.out.1];exact⟨⟨true,false,S⟩::pcsF l (partsL l) mm (toN q) [],by simp⟩,H6.out⟩⟩
    ·obtain⟨mm,rfl⟩:∃m',mm=m'+1:=⟨mm-1,by omega⟩
     have u1:¬(x:Int)<(l.length:Int):=by omega
     unfold pcsF at hRR
     rw[if_neg hx] at hRR
     have HR:=Lib.hid (And.intro hRR hin)
     clear hRR hin
     gi_wp2_with fail
     refine⟨trivial,fun h=>by simp[Fence.wide] at h,?_⟩
     refine(flush_in (n-1) l' N n₀ (W.heap.size+1) W.heap.size b c m Xc X' l A J Jx hF H.out.2.1 wr pr buf v HR.out.2.a (fun hb=>List.IsPrefix.trans ⟨[],by rw[HR.out.1];simp[flP,hb]⟩ hN)).mono ?_
     rintro e W5 (⟨rfl,X5,_,_,_,h5⟩|⟨rfl,X5,h5⟩)
     ·have H5:=Lib.hid h5.j
      clear h5
      gi_wp2_with fail
      rw[Exit.noGoto_normal]
      go_end0
      exact⟨⟨_,rfl⟩,.inl ⟨_,X5,HR.out.1.symm,H5.out⟩⟩
     ·have H5:=Lib.hid h5
      clear h5
      gi_wp2_with fail
      rw[Exit.noGoto_normal]
      go_end0
      exact⟨⟨_,rfl⟩,.inr ⟨_,X5,by rw[HR.out.1];exact List.prefix_refl _,H5.out⟩⟩
end Go.Proofs.YtlbfdbinaekjoaaGreatDoor
