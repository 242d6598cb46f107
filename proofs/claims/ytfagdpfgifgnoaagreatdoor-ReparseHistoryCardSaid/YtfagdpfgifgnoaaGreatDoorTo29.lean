/- Iterators of ints that hold memory of their own: what a yield is asked, how far one has come. -/
import Derived.Test.YtfagdpfgifgnoaaGreatDoorRfy
import Derived.Test.YtfagdpfgifgnoaaGreatDoorMem
import Derived.Test.YtfagdpfgifgnoaaGreatDoorBv8
import Derived.Test.YtfagdpfgifgnoaaGreatDoorQc13
import Derived.Test.YtfagdpfgifgnoaaGreatDoorEc9
import Derived.Test.YtfagdpfgifgnoaaGreatDoorLa9
import Derived.Test.YtfagdpfgifgnoaaGreatDoorLf9
import Derived.Test.YtfagdpfgifgnoaaGreatDoorCls
set_option linter.unusedVariables false
set_option linter.unusedSimpArgs false
set_option maxRecDepth 100000
set_option maxHeartbeats 8000000
namespace Go.Proofs.YtfagdpfgifgnoaaGreatDoor
section
open Go.RowKit
theorem Rt.same {W W':World} {e:TypeId} {sz n:Nat} {v:Value} {xs:List Value} (h:Rt W e sz v n xs) (hk:∀g o m c,v=.slice (some ⟨g,o,none⟩) m c→W'.heap[g]? = W.heap[g]?):Rt W' e sz v n xs:=by
  obtain⟨h1,A,c,rfl,h3,h4,h5,h6⟩:=h;refine⟨h1,A,c,rfl,h3,h4,h5,fun hn=>?_⟩;obtain⟨g,o,cur,fr,rfl,hg,hc⟩:=h6 hn;have hg':=(hk g o n c rfl).trans hg;refine⟨g,o,cur,fr,rfl,hg',fun j u hj=>?_⟩;rw[cell_of_row W' g _ cur e fr hg',←cell_of_row W g _ cur e fr hg];exact hc j u hj
abbrev zx (x:Nat):Array Value:=#[.int .i64 (x:Int)]
def YC (l':Nat) (N:List Nat) (n₀:Nat) (Xc:Nat→Prop) (J Jx:(Nat→Prop)→List Nat→World→Prop):Prop:=
  ∀X pre x W1,J X pre W1→pre++[x]<+:N→∀m,YieldAt Fence.wide m Tryz.prog l' (zx x) W1 fun e W'=>
   (e=.returned (.bool true)∧J X (pre++[x]) W'∧aM n₀ Xc W1 W'∧∀k,X k→W'.heap[k]? = W1.heap[k]?)∨(e=.returned (.bool false)∧Jx X (pre++[x]) W'∧aM n₀ Xc W1 W'∧∀k,X k→W'.heap[k]? = W1.heap[k]?)
structure mF {α:Type} (J:(Nat→Prop)→List α→World→Prop) (W wr:World) (n₀:Nat) (Xc X X':Nat→Prop) (pr:List α):Prop where
  j:J X' pr wr
  xx:∀k,X k→X' k
  sm:∀k,X k→wr.heap[k]? = W.heap[k]?
  kx:aM n₀ Xc W wr
  xn:∀k,X' k→n₀≤k∧k<wr.heap.size
  wn:n₀≤W.heap.size
section
variable {α:Type} {J:(Nat→Prop)→List α→World→Prop} {W W1 wr:World} {n₀:Nat} {Xc X X1 X':Nat→Prop} {pr Gh:List α}
theorem mF.start (hj:J X pr W) (xn:∀k,X k→n₀≤k∧k<W.heap.size) (wn:n₀≤W.heap.size):mF J W W n₀ Xc X X pr:=
  ⟨hj,fun _ h=>h,fun _ _=>rfl,aM.refl _ _ _,xn,wn⟩
theorem mF.here (h:mF J W wr n₀ Xc X X' pr):mF J wr wr n₀ Xc X' X' pr:=mF.start h.j h.xn (Nat.le_trans h.wn h.kx.size)
theorem mF.then (h:mF J W W1 n₀ Xc X X1 Gh) (h':mF J W1 wr n₀ Xc X1 X' pr):mF J W wr n₀ Xc X X' pr:=
  ⟨h'.j,fun k hk=>h'.xx k (h.xx k hk),fun k hk=>(h'.sm k (h.xx k hk)).trans (h.sm k hk),h.kx.trans h'.kx,h'.xn,h.wn⟩
theorem mF.below (hF:gW J) (h:mF J W wr n₀ Xc X X' pr) {w':World} (hb:Below wr.heap.size wr w'):mF J W w' n₀ Xc X (eH X' wr w') pr:=by
  have hw:=Nat.le_trans h.wn h.kx.size;exact⟨hF _ _ _ _ h.j (XG.of_below hb),fun k hk=>.inl (h.xx k hk),fun k hk=>(hb.block k (h.xn k (h.xx k hk)).2).trans (h.sm k hk),h.kx.trans (aM.of_below hb hw),fun k hk=>by
    rcases hk with hk|hk
    ·have:=h.xn k hk;have:=hb.size;omega
    ·omega,h.wn⟩
theorem mF.next (h:mF J W wr n₀ Xc X X' pr) {w':World} {pr':List α} (hj:J X' pr' w') (hk:aM n₀ Xc wr w') (hs:∀k,X' k→w'.heap[k]? = wr.heap[k]?):mF J W w' n₀ Xc X X' pr':=
  ⟨hj,h.xx,fun k hk'=>(hs k (h.xx k hk')).trans (h.sm k hk'),h.kx.trans hk,fun k hk'=>⟨(h.xn k hk').1,Nat.lt_of_lt_of_le (h.xn k hk').2 hk.size⟩,h.wn⟩
theorem mF.bk (h:mF J W wr n₀ Xc X X' pr) {g:Nat} {t:TypeId} {cs:Array Value} (hb:Bk W g t cs) (hx:X g):Bk wr g t cs:=(h.sm g hx).trans hb
theorem mF.own (h:mF J W wr n₀ Xc X X' pr) {B e sz n:Nat} {v:Value} {xs:List Value} (ho:W.ownsRow B e sz v n xs) (hx:∀k,v.ownBlock=some k→X k):wr.ownsRow B e sz v n xs:=by
  refine⟨ho.1,?_⟩;rcases ho.2 with h2|⟨g,cap,cur,he,hg,hh,r⟩
  ·exact .inl h2
  ·exact .inr ⟨g,cap,cur,he,hg,(h.sm g (hx g (by rw[he];rfl))).trans hh,r⟩
end
theorem Ff {W W':World} {B e sz n:Nat} {v:Value} {xs:List Value} (ho:W.ownsRow B e sz v n xs) (hs:∀k,v.ownBlock=some k→W'.heap[k]? = W.heap[k]?):W'.ownsRow B e sz v n xs:=by
  refine⟨ho.1,?_⟩;rcases ho.2 with h2|⟨g,cap,cur,he,hg,hh,r⟩
  ·exact .inl h2
  ·exact .inr ⟨g,cap,cur,he,hg,(hs g (by rw[he];rfl)).trans hh,r⟩
theorem mF.write {α:Type} {J:(Nat→Prop)→List α→World→Prop} {W W' wr:World} {n₀:Nat} {Xc X':Nat→Prop} {pr:List α} (hF:gW J) (h:mF J W wr n₀ Xc (fun _=>False) X' pr) (hx:XG X' wr W'):mF J W W' n₀ Xc (fun _=>False) (eH X' wr W') pr:=by
  have hw:=Nat.le_trans h.wn h.kx.size;exact⟨hF _ _ _ _ h.j hx,fun _ hk=>hk.elim,fun _ hk=>hk.elim,h.kx.trans ⟨hx.size,fun k hk _=>hx.block k (by omega) (fun hX=>by have:=(h.xn k hX).1;omega)⟩,fun k hk=>by
    rcases hk with hk|hk
    ·have:=h.xn k hk;have:=hx.size;omega
    ·omega,h.wn⟩
end
section
open Go.RowKit
attribute [local go_sem] Oper.semAt_some
def vO (l:List Nat):List Value:=l.map fun (i:Nat)=>Value.int .i64 (i:Int)
theorem yQ (l:List Nat) (x:Nat):vO (l++[x])=vO l++vO [x]:=by simp[vO]
theorem DU (l:List Nat):∀u∈vO l,u.oneCell'=true:=by
  intro u hu;obtain⟨x,_,rfl⟩:=List.mem_map.1 hu;rfl
theorem Tryz.infoInt29:(Tryz.prog.info? 3).map (fun i=>(i.zero,i.size,i.bytes))=some (some (.int .i64 0),1,8):=by kernel_rfl
def Ak (gf:Nat) (lb:Array Value) (N:List Nat) (w:World):Prop:=
  (∀args w,(callFunc gf args).run Tryz.prog w=.ok (.enter gf args) w)∧∀W0,Below w.heap.size w W0→CQ Tryz.prog gf lb zx (aM w.heap.size fun _=>False) (fun xs=>xs=N) (fun _=>True) N W0
theorem wu (gf:Nat) (lb:Array Value) (N:List Nat) (w:World) (hN:N.length≤100000) (hI:Ak gf lb N w) :
    Calls Tryz.prog 73 #[.slice none 0 0,.func (.func gf) #[] lb] w fun e w'=>∃v,e=.returned v∧w'.ownsRow w.heap.size 3 1 v N.length (vO N)∧Below w.heap.size w w':=by
  obtain⟨i0,hi,hz0,hz1,hz2⟩:=info_parts Tryz.infoInt29;refine(callsIn_wide (n:=5)).1 ?_;refine callsIn_of_wp_marks Tryz.func73 rfl trivial ?_ rfl;simp only[Tryz.ntmps73,List.size_toArray,List.length_cons,List.length_nil,Nat.reduceAdd,Nat.reduceSub,Array.replicate_succ,Array.replicate_zero,List.push_toArray,List.append_toArray,List.nil_append,List.cons_append];gi_wp2_with fail;obtain⟨W0,hW0⟩:∃W0,w.alloc (.cells #[.slice none 0 0] 50)=W0:=⟨_,rfl⟩;have bO:Boxed W0 w.heap.size 50 (.slice none 0 0):=by rw[←hW0];exact Boxed.new w _ _
  have hs0:W0.heap.size=w.heap.size+1:=by rw[←hW0];simp
  have hb0:Below w.heap.size w W0:=by rw[←hW0];exact(Below.refl _ w).alloc (Nat.le_refl _) _
  rw[hW0];clear hW0
  refine l7 (by omega) (gf:=gf) (lb:=lb) rfl hI.1 (hI.2 W0 hb0) (fun h k=>h.trans k) (fun W l o o' hl h1 h2 h3=>lJ W l o o' (by omega) h1 h2 h3) (Below.refl _ _) (fun _=>rfl)
    (fun X pre W=>Cb w.heap.size W0.heap.size w.heap.size 50 3 1 w pre.length (vO pre) X W)
    (fun _ _ _ _=>False)
    (Cb.fits (n:=fun pre:List Nat=>pre.length) (xs:=fun pre=>vO pre) (by omega)) (fun _ _ _ _ _ h _=>h) (fun X pre W W' row h hg hr=>Ep _ _ _ _ _ _ _ _ _ _ X (by omega) (Nat.le_refl _) () W W' row h hg hr) (fun _ _ _ _ _ _ h _ _=>h)
    ⟨⟨_,bO,World.ownsRow_nil _ _ _ _,fun h=>h,fun _ _ h=>h⟩,hb0,Nat.le_refl _,fun _ h=>h.elim⟩
    (fun x a' W=>a'={tmps:=#[.slice none 0 0,.func (.func gf) #[] lb,.pointer (some ⟨w.heap.size,0,none⟩),undef,.slice none 0 0,.int .i64 (x:Int),.func (.func gf) #[] lb,.int .i64 (x:Int),undef,undef,undef,undef,undef],defers:=[]})
    (fun x a'=>fun _ _ _ _ h _ _=>h) ?assign ?body ?done ?stop
  case assign=>
    intro l' X pre x W K hI hpx hK;gi_wp2;exact hK _ _ (dN (Below.refl _ _)) (aM.refl _ _ _) (fun k hk=>rfl) hI rfl
  case body=>
    rintro l' X pre x a' W hl1 hl2 ⟨⟨v,hv,hrow,hnx⟩,hB,hS,hxb⟩ rfl hpx;have hlen:pre.length+1≤100000:=by have:=hpx.length_le;simp at this;omega
    have hc:=hv.cell;have hf:=hv.frozen;have hbxl:=Boxed.lt hv;gi_wp2_with (
      (gi_at_builtin;have hrd:=eM W (vO [x]) 3 1 1 rfl (by omega);refine dQ _ rfl (.tmp 8) (.tmp 10) 50 rfl W0.heap.size 3 i0 _ 1 8 Tryz.underlying50 hi hz0 hz1 hz2 rfl (by decide) v pre.length (vO pre) rfl (hrow.alloc _) (.slice (some ⟨W.heap.size,0,none⟩) 1 1) 1 (W.heap.size+1) (vO [x]) rfl hrd (DU _) (by unfold maxLen;omega) (by omega) (by rw[World.size_alloc];omega) ?_;intro v6 w6 hown6 hg6 hv6;have k6:Bk w6 w.heap.size 50 #[v]:=Bk.overrow (w:=W.alloc _) (Bk.alloc hv _) (hrow.alloc _) hg6 (by decide);have c6:=Boxed.cell k6;have f6:=Boxed.frozen k6;obtain⟨A6,n6,c6',rfl⟩:=az hown6;have H6:=Lib.hid (And.intro hown6 (And.intro hg6 hv6));clear hown6 hg6 hv6 k6 hrd))
    obtain⟨h6,hg6,hv6⟩:=H6.out;rw[←yQ,show pre.length+1=(pre++[x]).length by simp] at h6;exact Cb.app (M:=W0.heap.size) (n₀:=w.heap.size) (Xc:=fun _=>False) hv hrow hnx hB hS hxb (by decide) (Nat.le_refl _) (by omega) (Nat.le_refl _) (Nat.le_refl _) ((Below.refl _ _).alloc (Nat.le_refl _) _) hg6 h6 hv6
  case done=>
    rintro D X ys W hD rfl ⟨⟨v,hv,hrow,hnx⟩,hB,hS,hxb⟩ hK;have hc:=hv.cell;have hbk:=belowK_b (w:=w) (Nat.le_refl _) W D (.deferred (some [])) (.deferred none) (by omega) hK rfl rfl;have hrow3:=hrow.kept (grownBy_putObj' W D (.deferred none)) (.inr (fun e=>by have:=cz hrow e hK;cases this));have HD:=Lib.hid (And.intro hB (And.intro hbk hrow3));have HK2:=Lib.hid hK;clear hB hbk hrow hrow3 hv hK hnx hxb;gi_wp2;refine⟨by simp,.inl ⟨_,_,rfl,run_takeDeferred HK2.out,?_⟩⟩;exact⟨v,by simp[results,Tryz.results73,go_sem],⟨_,rfl,ez HD.out.2.2 (by omega),HD.out.1.trans HD.out.2.1⟩⟩
  case stop=>
    intro D c X pre W _ _ h _;exact h.elim
theorem tR (gf:Nat) (lb:Array Value) (N:List Nat) (w:World) (hN:N.length≤100000) (hI:Ak gf lb N w) :
    Calls Tryz.prog 47 #[.func (.func gf) #[] lb] w fun e w'=>∃v,e=.returned v∧w'.ownsRow w.heap.size 3 1 v N.length (vO N)∧Below w.heap.size w w':=by
  have H:=Lib.hid (wu gf lb N w hN hI);clear hI;go_enter Tryz.func47,Tryz.ntmps47;go_wp2_with (
    (go_at_call 73;refine H.out.mono ?_;rintro e w2 ⟨v,rfl,h1,h2⟩;have H2:=Lib.hid (And.intro h1 h2);clear h1 h2))
  go_ret;exact⟨_,rfl,H2.out⟩
theorem YC.one {l':Nat} {N:List Nat} {n₀:Nat} {Xc:Nat→Prop} {J Jx:(Nat→Prop)→List Nat→World→Prop} (hY:YC l' N n₀ Xc J Jx) {X:Nat→Prop} {pre:List Nat} {x:Nat} {W1:World} (hj:J X pre W1) (hN:pre++[x]<+:N) (m:Nat) :
    YieldAt Fence.wide m Tryz.prog l' (zx x) W1 fun e W'=>∃bb:Bool,e=.returned (.bool bb)∧(bb=true→J X (pre++[x]) W')∧(bb=false→Jx X (pre++[x]) W')∧aM n₀ Xc W1 W'∧∀k,X k→W'.heap[k]? = W1.heap[k]? := by
  obtain⟨fn,tmps,assign,body,hy,hR⟩:=hY X pre x W1 hj hN m;refine⟨fn,tmps,assign,body,hy,hR.mono ?_⟩;rintro e W' (⟨rfl,h1,h2,h3⟩|⟨rfl,h1,h2,h3⟩)
  ·exact⟨true,rfl,fun _=>h1,fun h=>(by cases h),h2,h3⟩
  ·exact⟨false,rfl,fun h=>(by cases h),fun _=>h1,h2,h3⟩
def sO (L:List Nd) (x:Nd):Bool:=match L[x.up.toNat]? with|some u=>u.kd==2&&u.up==0|none=>false
def mq (L:List Nd) (i:Nat):Bool:=match L[i]? with|some x=>x.kd==3&&decide (1≤x.up)&&decide (x.up<(L.length:Int))&&sO L x|none=>false
def jL (L:List Nd) (k:Nat):List Nat:=(List.range k).filter (mq L)
theorem oR (p:Nat→Bool) (k:Nat):(List.range (k+1)).filter p=(List.range k).filter p++(if p k=true then [k] else []):=by
  rw[List.range_succ,List.filter_append];congr 1;by_cases h:p k=true
  ·rw[if_pos h];simp[h]
  ·rw[if_neg h];simp[h]
theorem zi (p:Nat→Bool) {k n:Nat} (h:k≤n):(List.range k).filter p<+:(List.range n).filter p:=by
  induction h with
  | refl=>exact List.prefix_refl _
  | step _ ih=>exact ih.trans ⟨_,(oR p _).symm⟩
theorem zj (p:Nat→Bool) (k:Nat):((List.range k).filter p).length≤k:=by
  have:=List.length_filter_le p (List.range k)
  rwa [List.length_range] at this
theorem AD {L:List Nd} {i:Nat} {x:Nd} (h:L[i]? = some x):mq L i=(x.kd==3&&decide (1≤x.up)&&decide (x.up<(L.length:Int))&&sO L x):=by unfold mq;rw[h]
theorem AC (n l' bx c n₀:Nat) (Xc:Nat→Prop) (hXb:¬Xc bx) (L:List Nd) (A:Option Addr) (hXa:∀g o,A=some ⟨g,o,none⟩→¬Xc g) (J Jx:(Nat→Prop)→List Nat→World→Prop) (hF:gW J) (hY:YC l' (jL L L.length) n₀ Xc J Jx) (hL:L.length≤90000) (W:World) (hBn:Bk W bx 25 #[.slice A L.length c]) (hB1:bx<n₀) (hR:Rd W n₀ 4 (.slice A L.length c) L.length (dt L)) (wn:n₀≤W.heap.size) (h0:J (fun _=>False) [] W) :
    CallsIn Fence.wide n Tryz.prog 51 #[.func (.yield l') #[] #[],.pointer (some ⟨bx,0,none⟩)] W fun e W'=>(∃v,e=.returned v)∧((∃xs X,xs=jL L L.length∧J X xs W')∨(∃pre X,True∧Jx X pre W')):=by
  have hd0:=mF.start (Xc:=Xc) h0 (fun k hk=>hk.elim) wn;have y0:W.cell? ⟨bx,0,none⟩=some (.slice A L.length c):=by rw[hBn.cell];rfl
  have HK:=Lib.hid (And.intro hY (And.intro hBn (And.intro hR hd0)));have HX0:=Lib.hid (And.intro hXb hXa);clear hY hBn hR hd0 h0 hXb hXa;refine callsIn_of_wp Tryz.func51 rfl trivial ?_ rfl;simp only[Tryz.ntmps51,List.size_toArray,List.length_cons,List.length_nil,Nat.reduceAdd,Nat.reduceSub,Array.replicate_succ,Array.replicate_zero,List.push_toArray,List.append_toArray,List.nil_append,List.cons_append];gi_wp2_with fail;clear y0;gi_loopw [8] (fun i wr=>∃(k:Nat) (X:Nat→Prop),k≤L.length∧i=.int .i64 k∧mF J W wr n₀ Xc (fun _=>False) X (jL L k)) (fun i _=>L.length-(intOf i).toNat)
  case atStart=>exact⟨0,_,Nat.zero_le _,rfl,HK.out.2.2.2⟩
  case round=>
    obtain⟨k,X,hk,rfl,hd⟩:=hrel;have hkb:Bk wr bx 25 #[.slice A L.length c]:=(hd.kx.same bx hB1 HX0.out.1).trans HK.out.2.1;have hbl:=hkb.lt;by_cases hlt:k<L.length
    ·have u1:(k:Int)<(L.length:Int):=by omega
     have u2:(0:Int)≤(k:Int):=by omega
     obtain⟨x,hx⟩:∃x,L[k]? = some x:=⟨_,List.getElem?_eq_getElem hlt⟩;obtain⟨g,o,rfl,hgl,hc⟩:=bS de HK.out.2.2.1 hx rfl;have hgw:g<wr.heap.size:=by have:=hd.kx.size;omega
     obtain⟨K,hK⟩:∃K:Int,K=(x.kd:Int):=⟨_,rfl⟩;obtain⟨up,hup⟩:∃up:Int,up=x.up:=⟨_,rfl⟩;have z0:wr.cell? ⟨g,o+k*4,none⟩=some (.int .i64 K):=by rw[hK];exact(hd.kx.cell hgl (HX0.out.2 _ _ rfl) _).trans (hc 0 _ rfl)
     have z1:wr.cell? ⟨g,o+k*4+1,none⟩=some (.int .i64 (x.fr:Int)):=(hd.kx.cell hgl (HX0.out.2 _ _ rfl) _).trans (hc 1 _ rfl);have z2:wr.cell? ⟨g,o+k*4+2,none⟩=some (.int .i64 (x.tt:Int)):=(hd.kx.cell hgl (HX0.out.2 _ _ rfl) _).trans (hc 2 _ rfl);have z3:wr.cell? ⟨g,o+k*4+3,none⟩=some (.int .i64 up):=by rw[hup];exact(hd.kx.cell hgl (HX0.out.2 _ _ rfl) _).trans (hc 3 _ rfl)
     have z4:wr.cell? ⟨bx,0,none⟩=some (.slice (some ⟨g,o,none⟩) L.length c):=by rw[hkb.cell];rfl
     have hsuc:=oR (mq L) k;have htb:=AD hx;rw[←hup] at htb;have hpre:=zi (mq L) (k:=k+1) (n:=L.length) (by omega);obtain⟨wo,hwo⟩:∃wo:World,wo=wr.alloc (.cells #[.int .i64 K,.int .i64 (x.fr:Int),.int .i64 (x.tt:Int),.int .i64 up] 49):=⟨_,rfl⟩;have hbo:Below wr.heap.size wr wo:=by rw[hwo];exact(Below.refl _ _).alloc (Nat.le_refl _) _
     have hdo:=hd.below hF hbo;by_cases h3:x.kd=3∧1≤up∧up<(L.length:Int)
     ·obtain⟨h3,h1,hul⟩:=h3;obtain rfl:K=3:=by omega
      have t2:decide (up<1)=false:=by simp;omega
      have t3:decide ((L.length:Int)≤up)=false:=by simp;omega
      obtain⟨u,hu⟩:∃u:Nat,up=(u:Int):=⟨up.toNat,by omega⟩;obtain⟨y,hy⟩:∃y,L[u]? = some y:=⟨_,List.getElem?_eq_getElem (by omega)⟩;obtain⟨_,_,he,_,hc2⟩:=bS de HK.out.2.2.1 hy rfl
      cases he;have htx:sO L x=(y.kd==2&&y.up==0):=by unfold sO;rw[←hup,hu,Int.toNat_natCast,hy]
      rw[htx,show (x.kd==3)=true by simp[h3],show decide (1≤up)=true by simpa using h1,show decide (up<(L.length:Int))=true by simpa using hul] at htb;simp only[Bool.true_and] at htb;obtain⟨K2,hK2⟩:∃K2:Int,K2=(y.kd:Int):=⟨_,rfl⟩;obtain⟨U2,hU2⟩:∃U2:Int,U2=y.up:=⟨_,rfl⟩;have x0:wr.cell? ⟨g,o+u*4,none⟩=some (.int .i64 K2):=by rw[hK2];exact(hd.kx.cell hgl (HX0.out.2 _ _ rfl) _).trans (hc2 0 _ rfl)
      have x1:wr.cell? ⟨g,o+u*4+1,none⟩=some (.int .i64 (y.fr:Int)):=(hd.kx.cell hgl (HX0.out.2 _ _ rfl) _).trans (hc2 1 _ rfl);have x2:wr.cell? ⟨g,o+u*4+2,none⟩=some (.int .i64 (y.tt:Int)):=(hd.kx.cell hgl (HX0.out.2 _ _ rfl) _).trans (hc2 2 _ rfl);have x3:wr.cell? ⟨g,o+u*4+3,none⟩=some (.int .i64 U2):=by rw[hU2];exact(hd.kx.cell hgl (HX0.out.2 _ _ rfl) _).trans (hc2 3 _ rfl)
      have u3:(u:Int)<(L.length:Int):=by omega
      have u4:(0:Int)≤(u:Int):=by omega
      subst hu;obtain⟨w2,hw2⟩:∃w2:World,w2=wo.alloc (.cells #[.int .i64 K2,.int .i64 (y.fr:Int),.int .i64 (y.tt:Int),.int .i64 U2] 49):=⟨_,rfl⟩;have hb2:Below wo.heap.size wo w2:=by rw[hw2];exact(Below.refl _ _).alloc (Nat.le_refl _) _
      have hd2:=hdo.below hF hb2;rw[hwo] at hw2;by_cases hyes:y.kd=2∧y.up=0
      ·obtain rfl:K2=2:=by omega
       obtain rfl:U2=0:=by omega
       rw[show (y.kd==2&&y.up==0)=true by simp[hyes.1,hyes.2]] at htb;rw[if_pos htb] at hsuc;rw[hsuc] at hpre;obtain⟨fn,tmps,assign,body,hyy,hRR⟩:=HK.out.1 _ _ k w2 hd2.j hpre (n-1);have hR2:=Lib.hid hRR;simp only[zx] at hyy;rw[hw2] at hyy;have hy2:=Lib.hid hyy;have HX:=Lib.hid (And.intro hsuc hd2);clear hRR hyy hpre hsuc hd2 hdo hd hb2 hbo hc hc2 htb htx hyes hK2 hU2 hy hx hkb hK hup h3 hwo;gi_wp2_with fail;rw[hy2.out];gi_wp2_with fail;refine⟨fun h=>by simp[Fence.wide] at h,?_⟩;rw[←hw2];refine hR2.out.mono ?_;rintro e W3 (⟨rfl,hJ3,hk3,hx3⟩|⟨rfl,hJx3,hk3,hx3⟩)
       ·have H3:=Lib.hid (HX.out.2.next hJ3 hk3 hx3);clear hJ3 hk3 hx3;gi_wp2_with fail;exact⟨⟨k+1,_,by omega,by go_num,by unfold jL;rw[HX.out.1];exact H3.out⟩,by simp[intOf];omega⟩
       ·have H3:=Lib.hid hJx3;clear hJx3 hk3 hx3;gi_wp2_with fail;refine bn ?_;exact⟨⟨_,rfl⟩,.inr ⟨_,_,trivial,H3.out⟩⟩
      ·have hno:(y.kd==2&&y.up==0)=false:=by
         rw[Bool.and_eq_false_iff];by_cases h:y.kd=2
         ·exact .inr (beq_false_of_ne (fun e=>hyes ⟨h,e⟩))
         ·exact .inl (beq_false_of_ne h)
       rw[hno] at htb;rw[if_neg (by rw[htb];decide),List.append_nil] at hsuc;have HX:=Lib.hid (And.intro hsuc hd2);have hw3:(K2==2)=false∨(K2=2∧(U2==0)=false):=by
         by_cases h:y.kd=2
         ·exact .inr ⟨by omega,beq_false_of_ne (fun e=>hyes ⟨h,by omega⟩)⟩
         ·exact .inl (beq_false_of_ne (by omega))
       clear hpre hsuc hd2 hdo hd hb2 hbo hc hc2 htb htx hyes hno hK2 hU2 hy hx hkb hK hup h3 hwo;rcases hw3 with h|⟨rfl,h⟩
       all_goals (
         gi_wp2_with (first
           | ((with_reducible refine⟨fun f h=>?_,?_⟩);cases h))
         rw[←hw2];exact⟨⟨k+1,_,by omega,by go_num,by unfold jL;rw[HX.out.1];exact HX.out.2⟩,by simp[intOf];omega⟩)
     ·have hno:mq L k=false:=by
        rw[htb];by_cases h:x.kd=3
        ·by_cases h':1≤up
         ·rw[show decide (up<(L.length:Int))=false from decide_eq_false (fun e=>h3 ⟨h,h',e⟩)];simp
         ·rw[show decide (1≤up)=false from decide_eq_false h'];simp
        ·rw[show (x.kd==3)=false from beq_false_of_ne h];rfl
      rw[if_neg (by rw[hno];decide),List.append_nil] at hsuc;have HX:=Lib.hid (And.intro hsuc hdo);have hw3:(K != 3)=true∨(K=3∧decide (up<1)=true)∨(K=3∧decide (up<1)=false∧decide ((L.length:Int)≤up)=true):=by
        by_cases h:x.kd=3
        ·obtain rfl:K=3:=by omega
         by_cases h':1≤up
         ·exact .inr (.inr ⟨rfl,by simp;omega,by simp;exact Int.not_lt.1 (fun e=>h3 ⟨h,h',e⟩)⟩)
         ·exact .inr (.inl ⟨rfl,by simp;omega⟩)
        ·exact .inl (by simp;omega)
      clear hpre hsuc hdo hd hbo hc htb hno hK hup hx hkb h3;rcases hw3 with h|⟨rfl,h⟩|⟨rfl,h,h'⟩
      all_goals (
        gi_wp2_with fail;rw[←hwo];exact⟨⟨k+1,_,by omega,by go_num,by unfold jL;rw[HX.out.1];exact HX.out.2⟩,by simp[intOf];omega⟩)
    ·obtain rfl:k=L.length:=by omega
     have HE:=Lib.hid hd;clear hd hkb;gi_wp2_with fail;go_end0;first|exact⟨⟨_,rfl⟩,.inl ⟨X,HE.out.j⟩⟩|exact⟨⟨_,rfl⟩,.inl ⟨_,X,rfl,HE.out.j⟩⟩
theorem Dn (A:Option Addr) (n c:Nat) (w:World) :
    Calls Tryz.prog 28 #[.slice A n c] w fun e w'=>e=.returned (.func (.func 51) #[] #[.pointer (some ⟨w.heap.size,0,none⟩)])∧w'=w.alloc (.cells #[.slice A n c] 25):=by
  go_enter Tryz.func28,Tryz.ntmps28;go_wp2;go_ret;exact⟨rfl,rfl⟩
def FI (gf:Nat) (lb:Array Value) (N:List Nat) (Xc:Nat→Prop) (w:World):Prop:=
  (∀args w,(callFunc gf args).run Tryz.prog w=.ok (.enter gf args) w)∧∀W0,Below w.heap.size w W0→CQ Tryz.prog gf lb zx (aM w.heap.size Xc) (fun xs=>xs=N) (fun _=>True) N W0
theorem wJ (L:List Nd) (hL:L.length≤90000) (A:Option Addr) (c:Nat) (w:World) (Xc:Nat→Prop) (hXa:∀g o,A=some ⟨g,o,none⟩→¬Xc g) (hXb:¬Xc w.heap.size) (hR:Rd w w.heap.size 4 (.slice A L.length c) L.length (dt L)) :
    Calls Tryz.prog 28 #[.slice A L.length c] w fun e w'=>∃gf lb,e=.returned (.func (.func gf) #[] lb)∧FI gf lb (jL L L.length) Xc w'∧Below w.heap.size w w':=by
  refine(Dn _ _ _ w).mono ?_;rintro e w' ⟨rfl,hw⟩;have hs:w'.heap.size=w.heap.size+1:=by rw[hw];simp
  have k1:Bk w' w.heap.size 25 #[.slice A L.length c]:=by rw[hw];exact Bk.new w _ _
  have hbw:Below w.heap.size w w':=by rw[hw];exact(Below.refl _ w).alloc (Nat.le_refl _) _
  refine⟨_,_,rfl,⟨enters_of Tryz.func51 (by kernel_rfl) rfl,fun W0 hW0=>?_⟩,hbw⟩;intro n l' J Jx W hW hF _ hY hJ;have hb:=hW0.trans (hW.mono hW0.size);refine AC n l' _ c w'.heap.size Xc hXb L A hXa J Jx hF hY hL W (k1.below hb k1.lt) (by omega) ?_ hb.size hJ
  exact((hR.keep hbw (Nat.le_refl _)).keep (hb.mono (by omega)) (Nat.le_refl _)).mono (by omega)
theorem AB (L:List Nd) (hL:L.length≤90000) (A:Option Addr) (c:Nat) (w:World) (hR:Rd w w.heap.size 4 (.slice A L.length c) L.length (dt L)) :
    Calls Tryz.prog 28 #[.slice A L.length c] w fun e w'=>∃gf lb,e=.returned (.func (.func gf) #[] lb)∧Ak gf lb (jL L L.length) w'∧Below w.heap.size w w':=
  wJ L hL A c w (fun _=>False) (fun _ _ _ h=>h) (fun h=>h) hR
theorem Gu (L:List Nd) (hL:L.length≤90000) (A:Option Addr) (c:Nat) (w:World) (hR:Rd w w.heap.size 4 (.slice A L.length c) L.length (dt L)) :
    Calls Tryz.prog 19 #[.slice A L.length c] w fun e w'=>∃v,e=.returned v∧w'.ownsRow w.heap.size 3 1 v (jL L L.length).length (vO (jL L L.length))∧Below w.heap.size w w':=by
  have hn:=zj (mq L) L.length;have H:=Lib.hid (And.intro (AB L hL A c w hR) (fun gf lb w2 hI=>tR gf lb (jL L L.length) w2 (by unfold jL;omega) hI));clear hR hn;go_enter Tryz.func19,Tryz.ntmps19
  go_wp2_with (first
    | (go_at_call 28;refine H.out.1.mono ?_;rintro e w2 ⟨gf,lb,rfl,h1,h2⟩;have H1:=Lib.hid (And.intro h1 h2);clear h1 h2)
    | (go_at_call 47;refine(H.out.2 _ _ _ H1.out.1).mono ?_;rintro e w3 ⟨v,rfl,h1,h2⟩;have H2:=Lib.hid (And.intro h1 h2);clear h1 h2))
  go_ret;exact⟨_,rfl,ez H2.out.1 H1.out.2.size,H1.out.2.trans (H2.out.2.mono H1.out.2.size)⟩
end
end Go.Proofs.YtfagdpfgifgnoaaGreatDoor
