/- Paint: painter.word tells the classes of a Word's bytes. -/
import Derived.Test.YtgdifhhioahakaaGreatDoorSu24
import Derived.Test.YtgdifhhioahakaaGreatDoorRw
namespace Go.Proofs.YtgdifhhioahakaaGreatDoor
open Go.RowKit
set_option linter.unusedVariables false
set_option linter.unusedSimpArgs false
set_option maxRecDepth 100000
attribute [local go_sem] Oper.semAt_some
theorem eqA_idx:∀(l:List UInt8) (k:Nat),eqA l k=if Lib.indexByte l 61 = -1 then -1 else Lib.indexByte l 61+(k:Int)
  | [],k=>rfl
  | c::r,k=>by
    have ih:=eqA_idx r (k+1)
    have hg:=Lib.indexByte_ge r 61
    show (if c==61 then (k:Int) else eqA r (k+1))=if (if c==61 then (0:Int) else if Lib.indexByte r 61 == -1 then -1 else Lib.indexByte r 61+1) = -1 then -1 else (if c==61 then (0:Int) else if Lib.indexByte r 61 == -1 then -1 else Lib.indexByte r 61+1)+(k:Int)
    by_cases hc:(c==61)=true
    ·rw[if_pos hc,if_pos hc,if_neg (by omega)]
     omega
    ·rw[if_neg hc,if_neg hc,ih]
     by_cases hm:Lib.indexByte r 61 = -1
     ·have hb:(Lib.indexByte r 61 == -1)=true:=by simpa using hm
      rw[if_pos hm,if_pos hb,if_pos rfl]
     ·have hb:¬(Lib.indexByte r 61 == -1)=true:=by simpa using hm
      rw[if_neg hm,if_neg hb,if_neg (by omega)]
      omega
theorem eqA_zero (l:List UInt8):Lib.indexByte l 61=eqA l 0:=by
  rw[eqA_idx]
  split
  ·assumption
  ·omega
theorem eqA_le:∀(l:List UInt8) (k:Nat), -1≤eqA l k∧eqA l k≤((l.length+k:Nat):Int)
  | [],k=>by show -1≤(-1:Int)∧(-1:Int)≤_;omega
  | c::r,k=>by
    have ih:=eqA_le r (k+1)
    show -1≤(if c==61 then (k:Int) else eqA r (k+1))∧(if c==61 then (k:Int) else eqA r (k+1))≤_
    split
    ·simp only[List.length_cons];omega
    ·simp only[List.length_cons];omega
theorem eqx_m (l:List UInt8) (W:World):Calls Tryz.prog 55 #[.string ⟨l.toArray⟩,.int .u8 61] W fun e w'=>e=.returned (.int .i64 (eqA l 0))∧w'=W:=by
  refine(ixb_m l 61 W).mono ?_
  rw[←eqA_zero]
  exact fun e w' h=>h
theorem Rt.same {W W':World} {e:TypeId} {sz n:Nat} {v:Value} {xs:List Value} (h:Rt W e sz v n xs) (hk:∀g o m c,v=.slice (some ⟨g,o,none⟩) m c→W'.heap[g]? = W.heap[g]?):Rt W' e sz v n xs:=by
  obtain⟨h1,A,c,rfl,h3,h4,h5,h6⟩:=h
  refine⟨h1,A,c,rfl,h3,h4,h5,fun hn=>?_⟩
  obtain⟨g,o,cur,fr,rfl,hg,hc⟩:=h6 hn
  have hg':=(hk g o n c rfl).trans hg
  refine⟨g,o,cur,fr,rfl,hg',fun j u hj=>?_⟩
  rw[cell_of_row W' g _ cur e fr hg',←cell_of_row W g _ cur e fr hg]
  exact hc j u hj
abbrev encC (x:Nat):Array Value:=#[.int .i64 (x:Int)]
def YC (l':Nat) (N:List Nat) (n₀:Nat) (Xc:Nat→Prop) (J Jx:(Nat→Prop)→List Nat→World→Prop):Prop:=
  ∀X pre x W1,J X pre W1→pre++[x]<+:N→∀m,YieldAt Fence.wide m Tryz.prog l' (encC x) W1 fun e W'=>
   (e=.returned (.bool true)∧J X (pre++[x]) W'∧KeepX n₀ Xc W1 W'∧∀k,X k→W'.heap[k]? = W1.heap[k]?)∨(e=.returned (.bool false)∧Jx X (pre++[x]) W'∧KeepX n₀ Xc W1 W'∧∀k,X k→W'.heap[k]? = W1.heap[k]?)
structure Pw (W:World) (X:Nat→Prop) (L:List Nd) (A:Option Addr) (c g m:Nat) (kk:Nat):Prop where
  bk:Bk W g 67 #[.slice A L.length c,.int .i64 (kk:Int),.map (some m)]
  nd:Rt W 76 4 (.slice A L.length c) L.length (ndcs L)
  mp:∃q,IM W m q (outF L L.length)
  xg:X g
  xm:X m
  xa:∀b,A.map Addr.block=some b→X b
section
variable {W W':World} {X Y:Nat→Prop} {L:List Nd} {A:Option Addr} {c g m:Nat} {kk:Nat}
theorem Pw.same (h:Pw W X L A c g m kk) (hXY:∀k,X k→Y k) (hs:∀k,X k→W'.heap[k]? = W.heap[k]?):Pw W' Y L A c g m kk:=by
  obtain⟨q,hq⟩:=h.mp
  refine⟨(hs g h.xg).trans h.bk,h.nd.same fun b o n c e=>?_,⟨q,hq.kept (hs m h.xm)⟩,hXY _ h.xg,hXY _ h.xm,fun b hb=>hXY _ (h.xa b hb)⟩
  cases e
  exact hs b (h.xa b rfl)
theorem Pw.below (h:Pw W X L A c g m kk) (hXY:∀k,X k→Y k) (hb:Below W.heap.size W W') (hx:∀k,X k→k<W.heap.size):Pw W' Y L A c g m kk:=h.same hXY fun k hk=>hb.block k (hx k hk)
end
structure D24 (J:(Nat→Prop)→List Nat→World→Prop) (W wr:World) (n₀:Nat) (Xc X X':Nat→Prop) (pr:List Nat):Prop where
  j:J X' pr wr
  xx:∀k,X k→X' k
  sm:∀k,X k→wr.heap[k]? = W.heap[k]?
  kx:KeepX n₀ Xc W wr
  xn:∀k,X' k→n₀≤k∧k<wr.heap.size
  wn:n₀≤W.heap.size
section
variable {J:(Nat→Prop)→List Nat→World→Prop} {W W1 wr:World} {n₀:Nat} {Xc X X1 X':Nat→Prop} {pr pr1:List Nat}
theorem D24.start (hj:J X pr W) (xn:∀k,X k→n₀≤k∧k<W.heap.size) (wn:n₀≤W.heap.size):D24 J W W n₀ Xc X X pr:=
  ⟨hj,fun _ h=>h,fun _ _=>rfl,KeepX.refl _ _ _,xn,wn⟩
theorem D24.here (h:D24 J W wr n₀ Xc X X' pr):D24 J wr wr n₀ Xc X' X' pr:=D24.start h.j h.xn (Nat.le_trans h.wn h.kx.size)
theorem D24.then (h:D24 J W W1 n₀ Xc X X1 pr1) (h':D24 J W1 wr n₀ Xc X1 X' pr):D24 J W wr n₀ Xc X X' pr:=
  ⟨h'.j,fun k hk=>h'.xx k (h.xx k hk),fun k hk=>(h'.sm k (h.xx k hk)).trans (h.sm k hk),h.kx.trans h'.kx,h'.xn,h.wn⟩
theorem D24.below (hF:Fits J) (h:D24 J W wr n₀ Xc X X' pr) {w':World} (hb:Below wr.heap.size wr w'):D24 J W w' n₀ Xc X (xNew X' wr w') pr:=by
  have hw:=Nat.le_trans h.wn h.kx.size
  exact⟨hF _ _ _ _ h.j (XG.of_below hb),fun k hk=>.inl (h.xx k hk),fun k hk=>(hb.block k (h.xn k (h.xx k hk)).2).trans (h.sm k hk),h.kx.trans (KeepX.of_below hb hw),fun k hk=>by
    rcases hk with hk|hk
    ·have:=h.xn k hk;have:=hb.size;omega
    ·omega,h.wn⟩
theorem D24.next (h:D24 J W wr n₀ Xc X X' pr) {w':World} {pr':List Nat} (hj:J X' pr' w') (hk:KeepX n₀ Xc wr w') (hs:∀k,X' k→w'.heap[k]? = wr.heap[k]?):D24 J W w' n₀ Xc X X' pr':=
  ⟨hj,h.xx,fun k hk'=>(hs k (h.xx k hk')).trans (h.sm k hk'),h.kx.trans hk,fun k hk'=>⟨(h.xn k hk').1,Nat.lt_of_lt_of_le (h.xn k hk').2 hk.size⟩,h.wn⟩
theorem D24.bk (h:D24 J W wr n₀ Xc X X' pr) {g:Nat} {t:TypeId} {cs:Array Value} (hb:Bk W g t cs) (hx:X g):Bk wr g t cs:=(h.sm g hx).trans hb
theorem D24.own (h:D24 J W wr n₀ Xc X X' pr) {B e sz n:Nat} {v:Value} {xs:List Value} (ho:W.ownsRow B e sz v n xs) (hx:∀k,v.ownBlock=some k→X k):wr.ownsRow B e sz v n xs:=by
  refine⟨ho.1,?_⟩
  rcases ho.2 with h2|⟨g,cap,cur,he,hg,hh,r⟩
  ·exact .inl h2
  ·exact .inr ⟨g,cap,cur,he,hg,(h.sm g (hx g (by rw[he];rfl))).trans hh,r⟩
end
theorem rEnd_get {ys:List RV} {f:Nat} {r:RV} (h:ys[f]? = some r):rEnd ys (f+1)=r.b:=by
  show (ys.getD f (⟨0,0,0⟩:RV)).b=r.b
  rw[List.getD_eq_getElem?_getD,h]
  rfl
theorem rEnd_end {K:Nat→Int} {n:Nat} {ys:List RV} (h:Rok K n ys n):rEnd ys ys.length=n:=h.last
theorem range_map_succ {α:Type} (f:Nat→α) (t:Nat) (pre:List α):pre++(List.range (t+1)).map f=(pre++(List.range t).map f)++[f t]:=by
  rw[List.range_succ,List.map_append,List.append_assoc]
  rfl
theorem range_map_pre {α:Type} (f:Nat→α) {t n:Nat} (h:t≤n) (pre:List α):pre++(List.range t).map f<+:pre++(List.range n).map f:=by
  obtain⟨d,rfl⟩:∃d,n=t+d:=⟨n-t,by omega⟩
  refine⟨(List.range' t d).map f,?_⟩
  rw[List.append_assoc,←List.map_append]
  congr 2
  rw[List.range_eq_range',List.range_eq_range']
  have:=List.range'_append (s:=0) (m:=t) (n:=d) (step:=1)
  simpa using this
theorem wordC_part {w:List UInt8} {kd x:Nat} {cmd:Bool} (h:partA w x≠0):wordC w kd cmd x=partA w x:=by unfold wordC;rw[if_neg h]
theorem wordC_name {w:List UInt8} {kd x:Nat} {cmd:Bool} (h:partA w x=0) (h1:kd=6) (h2:(x:Int)≤eqA w 0):wordC w kd cmd x=8:=by unfold wordC;rw[if_pos h,if_pos ⟨h1,h2⟩]
theorem wordC_else {w:List UInt8} {kd x:Nat} {cmd:Bool} (h:partA w x=0) (h1:¬(kd=6∧(x:Int)≤eqA w 0)):wordC w kd cmd x=if cmd=true then 6 else 7:=by unfold wordC;rw[if_pos h,if_neg h1]
theorem outF_at {L:List Nd} {nd:Nat} (h:nd<L.length):outF L L.length (nd:Int)=if cmdW L nd=true then 1 else 0:=by
  unfold outF
  rw[Int.toNat_natCast]
  by_cases hc:cmdW L nd=true
  ·rw[if_pos ⟨by omega,by omega,hc⟩,if_pos hc]
  ·rw[if_neg (fun h=>hc h.2.2),if_neg hc]
structure M24 (W:World) (X:Nat→Prop) (L:List Nd) (A:Option Addr) (c g m:Nat) (kk:Nat) (wd:List UInt8) (v1 v2:Value) (ys:List RV):Prop where
  pw:Pw W X L A c g m kk
  o1:W.ownsRow 0 100 5 v1 (partsL wd).length (pcells (partsL wd))
  x1:∀k,v1.ownBlock=some k→X k
  o2:W.ownsRow 0 31 3 v2 ys.length (rcells ys)
  x2:∀k,v2.ownBlock=some k→X k
theorem own_same {W W':World} {B e sz n:Nat} {v:Value} {xs:List Value} (ho:W.ownsRow B e sz v n xs) (hs:∀k,v.ownBlock=some k→W'.heap[k]? = W.heap[k]?):W'.ownsRow B e sz v n xs:=by
  refine⟨ho.1,?_⟩
  rcases ho.2 with h2|⟨g,cap,cur,he,hg,hh,r⟩
  ·exact .inl h2
  ·exact .inr ⟨g,cap,cur,he,hg,(hs g (by rw[he];rfl)).trans hh,r⟩
section
variable {W W':World} {X Y:Nat→Prop} {L:List Nd} {A:Option Addr} {c g m:Nat} {kk:Nat} {wd:List UInt8} {v1 v2:Value} {ys:List RV}
theorem M24.same (h:M24 W X L A c g m kk wd v1 v2 ys) (hXY:∀k,X k→Y k) (hs:∀k,X k→W'.heap[k]? = W.heap[k]?):M24 W' Y L A c g m kk wd v1 v2 ys:=
  ⟨h.pw.same hXY hs,own_same h.o1 fun k hk=>hs k (h.x1 k hk),fun k hk=>hXY k (h.x1 k hk),own_same h.o2 fun k hk=>hs k (h.x2 k hk),fun k hk=>hXY k (h.x2 k hk)⟩
theorem M24.below (h:M24 W X L A c g m kk wd v1 v2 ys) (hb:Below W.heap.size W W') (hx:∀k,X k→k<W.heap.size):M24 W' (xNew X W W') L A c g m kk wd v1 v2 ys:=
  h.same (fun k hk=>.inl hk) fun k hk=>hb.block k (hx k hk)
end
theorem partA_no {wd:List UInt8} {t:Nat} {K:Int} (hK:byF (partsL wd) (t:Int) (partsL wd).length=K) (h:K<0):partA wd t=0:=by
  unfold partA
  rw[hK,if_neg (by omega)]
theorem partA_yes {wd:List UInt8} {t k:Nat} {q:Prt} (hK:byF (partsL wd) (t:Int) (partsL wd).length=(k:Int)) (h:(partsL wd)[k]? = some q):partA wd t=partC q:=by
  unfold partA
  rw[hK,if_pos (by omega),Int.toNat_natCast,List.getD_eq_getElem?_getD,h]
  rfl
theorem byF_lt (L:List Prt) (x:Int):∀n,byF L x n<(n:Int)
  | 0=>by show (-1:Int)<0;omega
  | n+1=>by
    have ih:=byF_lt L x n
    show (if _ then (n:Int) else byF L x n)<_
    split<;>omega
theorem wordC_ways (wd:List UInt8) (kd t:Nat) (cmd:Bool):((partA wd t:Int)≠0∧(wordC wd kd cmd t:Int)=(partA wd t:Int))∨((partA wd t:Int)=0∧(kd:Int)=6∧(t:Int)≤eqA wd 0∧(wordC wd kd cmd t:Int)=8)∨((partA wd t:Int)=0∧(kd:Int)=6∧¬(t:Int)≤eqA wd 0∧(if cmd=true then (1:Int) else 0)=1∧(wordC wd kd cmd t:Int)=6) ∨
    ((partA wd t:Int)=0∧(kd:Int)=6∧¬(t:Int)≤eqA wd 0∧(if cmd=true then (1:Int) else 0)=0∧(wordC wd kd cmd t:Int)=7)∨((partA wd t:Int)=0∧(kd:Int)≠6∧(if cmd=true then (1:Int) else 0)=1∧(wordC wd kd cmd t:Int)=6)∨((partA wd t:Int)=0∧(kd:Int)≠6∧(if cmd=true then (1:Int) else 0)=0∧(wordC wd kd cmd t:Int)=7):=by
  by_cases hp:partA wd t=0
  ·by_cases h6:kd=6
   ·by_cases hs:(t:Int)≤eqA wd 0
    ·exact .inr (.inl ⟨by omega,by omega,hs,by rw[wordC_name hp h6 hs];rfl⟩)
    ·cases cmd
     ·exact .inr (.inr (.inr (.inl ⟨by omega,by omega,hs,rfl,by rw[wordC_else hp (fun h=>hs h.2)];rfl⟩)))
     ·exact .inr (.inr (.inl ⟨by omega,by omega,hs,rfl,by rw[wordC_else hp (fun h=>hs h.2)];rfl⟩))
   ·cases cmd
    ·exact .inr (.inr (.inr (.inr (.inr ⟨by omega,by omega,rfl,by rw[wordC_else hp (fun h=>h6 h.1)];rfl⟩))))
    ·exact .inr (.inr (.inr (.inr (.inl ⟨by omega,by omega,rfl,by rw[wordC_else hp (fun h=>h6 h.1)];rfl⟩))))
  ·exact .inl ⟨by omega,by rw[wordC_part hp]⟩
def W24 (J:(Nat→Prop)→List Nat→World→Prop) (W:World) (n₀:Nat) (Xc X:Nat→Prop) (L:List Nd) (A:Option Addr) (c g m:Nat) (kk:Nat) (wd:List UInt8) (v1 v2:Value) (ys:List RV) (bx:Nat) (r:RV) (pr:List Nat) (wx:World):Prop:=
  ∃X3,D24 J W wx n₀ Xc X X3 pr∧M24 wx X3 L A c g m kk wd v1 v2 ys∧Bk wx bx 31 #[.int .i64 r.c,.int .i64 (r.a:Int),.int .i64 (r.b:Int)]∧X3 bx
set_option maxHeartbeats 8000000 in
theorem word_in (n l':Nat) (N:List Nat) (n₀:Nat) (Xc X:Nat→Prop) (J Jx:(Nat→Prop)→List Nat→World→Prop) (hF:Fits J) (hY:YC l' N n₀ Xc J Jx) (wd:List UInt8) (hl:wd.length≤900) (L:List Nd) (A:Option Addr) (c g m kk nd:Nat) (x:Nd) (W:World) (pre:List Nat)
    (hL:L.length≤90000) (hx:L[nd]? = some x) (hP:Pw W X L A c g m kk) (hJ:D24 J W W n₀ Xc X X pre) (hN:pre++(List.range wd.length).map (wordC wd x.kd (cmdW L nd))<+:N) :
    CallsIn Fence.wide n Tryz.prog 32 #[.pointer (some ⟨g,0,none⟩),.string ⟨wd.toArray⟩,.int .i64 (nd:Int),.func (.yield l') #[] #[]] W fun e W'=>
      (e=.returned (.bool true)∧∃X',D24 J W W' n₀ Xc X X' (pre++(List.range wd.length).map (wordC wd x.kd (cmdW L nd))))∨(e=.returned (.bool false)∧∃X' ys,Jx X' ys W'):=by
  obtain⟨F,hFF⟩:∃F,F=wordC wd x.kd (cmdW L nd):=⟨_,rfl⟩
  rw[←hFF] at hN ⊢
  have hlt:=(List.getElem?_eq_some_iff.1 hx).1
  obtain⟨gA,oA,rfl,hgA,hcA⟩:=rd_sat ndc_len hP.nd.rd hx rfl
  obtain⟨K9,hK9⟩:∃K9:Int,K9=(x.kd:Int):=⟨_,rfl⟩
  have y0:W.cell? ⟨gA,oA+nd*4,none⟩=some (.int .i64 K9):=by rw[hK9];exact hcA 0 _ rfl
  have u1:(nd:Int)<(L.length:Int):=by omega
  have u2:(0:Int)≤(nd:Int):=by omega
  have p0:W.cell? ⟨g,0,none⟩=some (.slice (some ⟨gA,oA,none⟩) L.length c):=by rw[hP.bk.cell];rfl
  obtain⟨sg,hsg⟩:∃sg,sg=eqA wd 0:=⟨_,rfl⟩
  have hix:∀W:World,Calls Tryz.prog 55 #[.string ⟨wd.toArray⟩,.int .u8 61] W fun e w'=>e=.returned (.int .i64 sg)∧w'=W:=fun W=>by rw[hsg];exact eqx_m wd W
  have H:=Lib.hid (And.intro hP (And.intro hJ (And.intro hN (And.intro hY (And.intro hFF (And.intro hK9 (And.intro hsg hix)))))))
  clear hP hJ hN hY hFF hK9 hsg hix hcA hx
  refine callsIn_of_wp Tryz.func32 rfl trivial ?_ rfl
  simp only[Tryz.ntmps32,List.size_toArray,List.length_cons,List.length_nil,Nat.reduceAdd,Nat.reduceSub,Array.replicate_succ,Array.replicate_zero,List.push_toArray,List.append_toArray,List.nil_append,List.cons_append]
  gi_wp2_with (first
    | (refine⟨trivial,fun h=>by simp[Fence.wide] at h,?_⟩
       gi_at_call 54
       refine(callsIn_wide.2 (of_m wd _ hl)).mono ?_
       rintro e w1 ⟨v1,rfl,ho1,hb1⟩
       have H1:=Lib.hid (And.intro ho1 hb1)
       clear ho1 hb1)
    | (refine⟨trivial,fun h=>by simp[Fence.wide] at h,?_⟩
       gi_at_call 55
       refine(callsIn_wide.2 (H.out.2.2.2.2.2.2.2 w1)).mono ?_
       rintro e w1' ⟨rfl,rfl⟩)
    | (refine⟨trivial,fun h=>by simp[Fence.wide] at h,?_⟩
       gi_at_call 56
       refine(callsIn_wide.2 (rows_m wd w1' hl)).mono ?_
       rintro e w2 ⟨v2,ys,rfl,hok,ho2,hb2⟩
       obtain⟨A2,n2,c2,rfl⟩:=own_form' ho2
       obtain rfl:=own_len ho2
       have H2:=Lib.hid (And.intro hok (And.intro ho2 hb2))
       clear hok ho2 hb2))
  have hst:∃X1,(∀k,X k→X1 k)∧D24 J W w2 n₀ Xc X X1 pre∧M24 w2 X1 L (some ⟨gA,oA,none⟩) c g m kk wd v1 (.slice A2 ys.length c2) ys:=by
    obtain⟨hP,hJ,_⟩:=H.out
    obtain⟨ho1,hb1⟩:=H1.out
    obtain⟨hok,ho2,hb2⟩:=H2.out
    have d1:=hJ.below hF hb1
    have d2:=d1.below hF hb2
    refine⟨_,fun k hk=>d2.xx k hk,d2,⟨hP.same d2.xx d2.sm,own_base (own_below ho1 hb2) (Nat.zero_le _),fun k hk=>?_,own_base ho2 (Nat.zero_le _),fun k hk=>?_⟩⟩
    ·exact .inl (.inr (ho1.lt k hk))
    ·exact .inr (ho2.lt k hk)
  have HS:=Lib.hid hst
  have hyl:ys.length≤900:=Nat.le_trans H2.out.1.len hl
  clear hst p0 y0
  gi_loopw [31] (fun i wr=>∃(f:Nat) (X':Nat→Prop),f≤ys.length∧i=.int .i64 f∧D24 J W wr n₀ Xc X X' (pre++(List.range (rEnd ys f)).map F)∧M24 wr X' L (some ⟨gA,oA,none⟩) c g m kk wd v1 (.slice A2 ys.length c2) ys) (fun i _=>ys.length-(intOf i).toNat)
  case atStart=>
    obtain⟨X1,_,d,hm⟩:=HS.out
    exact⟨0,X1,Nat.zero_le _,rfl,by simpa [rEnd] using d,hm⟩
  case round=>
    obtain⟨f,X',hf,rfl,hd,hm⟩:=hrel
    by_cases hfl:f<ys.length
    ·have v0:(f:Int)<(ys.length:Int):=by omega
     have v00:(0:Int)≤(f:Int):=by omega
     obtain⟨r,hr⟩:∃r,ys[f]? = some r:=⟨_,List.getElem?_eq_getElem hfl⟩
     obtain⟨g2,o2,rfl,hg2,hc2⟩:=rd_sat (lay:=rcell) (fun _=>rfl) (Rd.of_own hm.o2) hr rfl
     have q0:wr.cell? ⟨g2,o2+f*3,none⟩=some (.int .i64 r.c):=hc2 0 _ rfl
     have q1:wr.cell? ⟨g2,o2+f*3+1,none⟩=some (.int .i64 (r.a:Int)):=hc2 1 _ rfl
     have q2:wr.cell? ⟨g2,o2+f*3+2,none⟩=some (.int .i64 (r.b:Int)):=hc2 2 _ rfl
     have hrok:=H2.out.1.all f r hr
     have hre:=rEnd_get hr
     have HR:=Lib.hid (And.intro hd (And.intro hm (And.intro hrok hre)))
     have hra:r.a<r.b:=hrok.2.1
     have hrb:r.b≤900:=Nat.le_trans hrok.2.2.1 hl
     clear hd hm hrok hre hc2 hg2
     gi_wp2_with fail
     obtain⟨wo,hwo⟩:∃wo:World,wo=wr.alloc (.cells #[.int .i64 r.c,.int .i64 (r.a:Int),.int .i64 (r.b:Int)] 31):=⟨_,rfl⟩
     have hbo:Below wr.heap.size wr wo:=by rw[hwo];exact(Below.refl _ _).alloc (Nat.le_refl _) _
     have hko:Bk wo wr.heap.size 31 #[.int .i64 r.c,.int .i64 (r.a:Int),.int .i64 (r.b:Int)]:=by rw[hwo];exact Bk.new _ _ _
     have hso:wo.heap.size=wr.heap.size+1:=by rw[hwo];simp
     have hdo:=HR.out.1.below hF hbo
     have hmo:=HR.out.2.1.below hbo fun k hk=>(HR.out.1.xn k hk).2
     have hxo:xNew X' wr wo wr.heap.size:=.inr ⟨Nat.le_refl _,by omega⟩
     rw[←hwo]
     obtain⟨bx,hbx⟩:∃bx,bx=wr.heap.size:=⟨_,rfl⟩
     rw[←hbx] at hko hxo ⊢
     have HO:=Lib.hid (And.intro hdo (And.intro hmo (And.intro hko hxo)))
     clear hwo hbo hko hso hdo hmo hxo hbx q0 q1 q2
     gi_loopw [14] (fun i wx=>∃(t:Nat) (X2:Nat→Prop),r.a≤t∧t≤r.b∧i=.int .i64 t∧D24 J W wx n₀ Xc X X2 (pre++(List.range t).map F)∧M24 wx X2 L (some ⟨gA,oA,none⟩) c g m kk wd v1 (.slice (some ⟨g2,o2,none⟩) ys.length c2) ys∧Bk wx bx 31 #[.int .i64 r.c,.int .i64 (r.a:Int),.int .i64 (r.b:Int)]∧X2 bx) (fun i _=>r.b-(intOf i).toNat)
     case atStart=>
       obtain⟨a1,a2,a3,a4⟩:=HO.out
       exact⟨r.a,_,Nat.le_refl _,by omega,rfl,by rw[HR.out.2.2.1.1];exact a1,a2,a3,a4⟩
     case round=>
       obtain⟨t,X2,ht1,ht2,rfl,hd,hm,hk,hxb⟩:=hrel
       obtain⟨x0,x1,x2,_⟩:=hk.three
       by_cases htb:t<r.b
       ·have u3:(t:Int)<(r.b:Int):=by omega
        have hcl:byF (partsL wd) (t:Int) (partsL wd).length=r.c:=HR.out.2.2.1.2.2.2.1 t ht1 htb
        obtain⟨Z,hZ⟩:∃Z:Int,Z=(F t:Int):=⟨_,rfl⟩
        have hn2:pre++(List.range t).map F++[F t]<+:N:=by
          rw[←range_map_succ]
          exact(range_map_pre F (by have:=HR.out.2.2.1.2.2.1;omega) pre).trans H.out.2.2.1
        obtain⟨C0,hC0⟩:∃C0:Int,C0=(partA wd t:Int):=⟨_,rfl⟩
        obtain⟨O,hO⟩:∃O:Int,O=if cmdW L nd=true then 1 else 0:=⟨_,rfl⟩
        have key:(C0≠0∧Z=C0)∨(C0=0∧K9=6∧(t:Int)≤sg∧Z=8)∨(C0=0∧K9=6∧¬(t:Int)≤sg∧O=1∧Z=6)∨(C0=0∧K9=6∧¬(t:Int)≤sg∧O=0∧Z=7)∨(C0=0∧K9≠6∧O=1∧Z=6)∨(C0=0∧K9≠6∧O=0∧Z=7):=by
          rw[H.out.2.2.2.2.1] at hZ
          rw[H.out.2.2.2.2.2.1,H.out.2.2.2.2.2.2.1,hO,hC0,hZ]
          exact wordC_ways wd x.kd t (cmdW L nd)
        have HB:=Lib.hid (And.intro hd (And.intro hm (And.intro hk hxb)))
        have HK:=Lib.hid (And.intro key (And.intro hcl (And.intro hC0 (And.intro hO (And.intro hn2 hZ)))))
        clear hd hm hk hxb key hcl hC0 hO hn2 hZ
        obtain⟨b0,tb⟩:∃b0,decide ((0:Int)≤r.c)=b0:=⟨_,rfl⟩
        refine(wpIn_wide (n:=n)).2 ?_
        go_upto_if 45 with fail
        have HT0:=Lib.hid tb
        clear tb
        go_cut [15] from 37 to 74 (fun s wx=>s=.int .i64 C0∧W24 J W n₀ Xc X L (some ⟨gA,oA,none⟩) c g m kk wd v1 (.slice (some ⟨g2,o2,none⟩) ys.length c2) ys bx r (pre++(List.range t).map F) wx)
        case first=>
          cases b0
          ·have hc0:r.c<0:=by have:=of_decide_eq_false HT0.out;omega
           obtain rfl:C0=0:=by rw[HK.out.2.2.1,partA_no HK.out.2.1 hc0];rfl
           clear hc0
           go_wp2_with fail
           go_meet
           case rel=>exact⟨rfl,_,HB.out⟩
          ·have hc0:0≤r.c:=of_decide_eq_true HT0.out
           have hkl:r.c<((partsL wd).length:Int):=by rw[←HK.out.2.1];exact byF_lt _ _ _
           obtain⟨k,hkk⟩:∃k:Nat,k=r.c.toNat:=⟨_,rfl⟩
           have hkc:r.c=(k:Int):=by omega
           obtain⟨Q,hQ⟩:∃Q,(partsL wd)[k]? = some Q:=⟨_,List.getElem?_eq_getElem (by omega)⟩
           have hm:=HB.out.2.1
           obtain⟨A1,n1,c1,hv1⟩:=own_form' hm.o1
           subst hv1
           obtain rfl:=own_len hm.o1
           obtain⟨g1,o1,rfl,_,hc1⟩:=rd_sat (lay:=pcell) (fun _=>rfl) (Rd.of_own hm.o1) hQ rfl
           have z0:wr.cell? ⟨g1,o1+k*5,none⟩=some (.int .i64 Q.mode):=hc1 0 _ rfl
           have z1:wr.cell? ⟨g1,o1+k*5+1,none⟩=some (.int .i64 Q.fr):=hc1 1 _ rfl
           have z2:wr.cell? ⟨g1,o1+k*5+2,none⟩=some (.int .i64 Q.to):=hc1 2 _ rfl
           have z3:wr.cell? ⟨g1,o1+k*5+3,none⟩=some (.int .i64 Q.up):=hc1 3 _ rfl
           have z4:wr.cell? ⟨g1,o1+k*5+4,none⟩=some (.bool Q.op):=hc1 4 _ rfl
           have x0':wr.cell? ⟨bx,0,none⟩=some (.int .i64 (k:Int)):=by rw[x0,hkc]
           have u4:(k:Int)<((partsL wd).length:Int):=by omega
           have u5:(0:Int)≤(k:Int):=by omega
           obtain⟨pf,pt,hp1,hp2,hp3,hp4,_⟩:=part_two (List.mem_of_getElem? hQ)
           have hpa:partA wd t=partC Q:=partA_yes (by rw[HK.out.2.1,hkc]) hQ
           have hpt:∀W:World,Calls Tryz.prog 57 #[.agg #[.int .i64 Q.mode,.int .i64 Q.fr,.int .i64 Q.to,.int .i64 Q.up,.bool Q.op]] W fun e w'=>e=.returned (.int .i64 C0)∧Below W.heap.size W w':=fun W=>by
             rw[HK.out.2.2.1,hpa]
             exact part24_m Q W (by omega) (by omega) (by show (0:Int)≤Q.to;omega) (by show Q.to≤100000;omega)
           have HT:=Lib.hid hpt
           clear hpt hm hc1 hp1 hp2 hp3 hp4 hQ hkl hc0 hkc hkk x0 hpa
           go_wp2_with (go_at_call 57
                        refine(HT.out _).mono ?_
                        rintro e w4 ⟨rfl,hb4⟩
                        have H4:=Lib.hid hb4
                        clear hb4)
           go_meet
           case rel=>
             exact⟨rfl,_,HB.out.1.below hF H4.out,HB.out.2.1.below H4.out fun k hk=>(HB.out.1.xn k hk).2,HB.out.2.2.1.below H4.out HB.out.2.2.1.lt,.inl HB.out.2.2.2⟩
        case rest=>
          obtain⟨rfl,X3,hd,hm,hk,hxb⟩:=hcut
          obtain⟨x0,x1,x2,_⟩:=hk.three
          obtain⟨pg0,_,pg2,_⟩:=hm.pw.bk.three
          obtain⟨q,hq⟩:=hm.pw.mp
          have hlk:=hq.look (x:=(nd:Int)) (by omega) (by omega)
          rw[outF_at hlt,←HK.out.2.2.2.1] at hlk
          obtain⟨fn,tmps,assign,body,hy,hR⟩:=H.out.2.2.2.1 _ _ (F t) wc hd.j HK.out.2.2.2.2.1 (n-1)
          have hR2:=Lib.hid hR
          simp only[encC] at hy
          rw[←HK.out.2.2.2.2.2] at hy
          have hy2:=Lib.hid hy
          have HQ:=Lib.hid hlk
          have HC:=Lib.hid (And.intro hd (And.intro hm (And.intro hk hxb)))
          clear hd hm hk hxb hq hlk hR hy
          go_upto_block 4 with fail
          go_cut [15] from 37 to 74 (fun s wx=>s=.int .i64 Z∧wc=wx)
          case first=>
            rcases HK.out.1 with ⟨h0,rfl⟩|⟨rfl,rfl,hs,rfl⟩|⟨rfl,rfl,hs,rfl,rfl⟩|⟨rfl,rfl,hs,rfl,rfl⟩|⟨rfl,h6,rfl,rfl⟩|⟨rfl,h6,rfl,rfl⟩
            ·have t1:(Z != 0)=true:=by simpa using h0
             clear h0
             go_wp2_with fail
             go_meet
             case rel=>exact⟨rfl,rfl⟩
            ·have t1:decide ((t:Int)≤sg)=true:=by simpa using hs
             clear hs
             go_wp2_with fail
             go_meet
             case rel=>exact⟨rfl,rfl⟩
            ·have t1:decide ((t:Int)≤sg)=false:=by simpa using hs
             clear hs
             go_wp2_with fail
             rw[HQ.out]
             go_wp2_with fail
             go_meet
             case rel=>exact⟨rfl,rfl⟩
            ·have t1:decide ((t:Int)≤sg)=false:=by simpa using hs
             clear hs
             go_wp2_with fail
             rw[HQ.out]
             go_wp2_with fail
             go_meet
             case rel=>exact⟨rfl,rfl⟩
            ·have t1:(K9==6)=false:=beq_false_of_ne h6
             clear h6
             go_wp2_with fail
             rw[HQ.out]
             go_wp2_with fail
             go_meet
             case rel=>exact⟨rfl,rfl⟩
            ·have t1:(K9==6)=false:=beq_false_of_ne h6
             clear h6
             go_wp2_with fail
             rw[HQ.out]
             go_wp2_with fail
             go_meet
             case rel=>exact⟨rfl,rfl⟩
          case rest=>
            obtain⟨rfl,rfl⟩:=hcut
            go_upto_region 19 with fail
            refine(wpIn_wide (n:=n)).1 ?_
            gi_wp2_with fail
            rw[hy2.out]
            gi_wp2_with fail
            refine⟨fun h=>by simp[Fence.wide] at h,?_⟩
            refine hR2.out.mono ?_
            rintro e W3 (⟨rfl,hJ3,hk3,hx3⟩|⟨rfl,hJx3,hk3,hx3⟩)
            ·have H3:=Lib.hid (And.intro (HC.out.1.next hJ3 hk3 hx3) (And.intro (HC.out.2.1.same (fun _ h=>h) hx3) ((hx3 _ HC.out.2.2.2).trans HC.out.2.2.1)))
             clear hJ3 hk3 hx3
             gi_wp2_with fail
             go_wp2_with fail
             exact⟨⟨t+1,X3,by omega,by omega,by go_num,by rw[range_map_succ];exact H3.out.1,H3.out.2.1,H3.out.2.2,HC.out.2.2.2⟩,by simp[intOf];omega⟩
            ·have H3:=Lib.hid hJx3
             clear hJx3 hk3 hx3
             gi_wp2_with fail
             go_wp2_with fail
             refine bodyPost_ret (results_tmp rfl _ _ _) rfl ?_
             exact .inr ⟨rfl,_,_,H3.out⟩
       ·obtain rfl:t=r.b:=by omega
        have u3:¬(r.b:Int)<(r.b:Int):=by omega
        have HE:=Lib.hid (And.intro hd hm)
        clear hd hm hk hxb
        gi_wp2_with fail
        exact⟨⟨f+1,X2,by omega,by go_num,by rw[HR.out.2.2.2];exact HE.out.1,HE.out.2⟩,by simp[intOf];omega⟩
    ·obtain rfl:f=ys.length:=by omega
     have HE:=Lib.hid hd
     clear hd hm
     gi_wp2_with fail
     refine bodyPost_ret (results_tmp rfl _ _ _) rfl ?_
     exact .inl ⟨rfl,X',by have h:=HE.out;rw[H2.out.1.last] at h;exact h⟩
end Go.Proofs.YtgdifhhioahakaaGreatDoor
