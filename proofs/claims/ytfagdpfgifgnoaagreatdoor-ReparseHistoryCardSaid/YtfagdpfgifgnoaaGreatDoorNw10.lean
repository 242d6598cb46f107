/- Package relex: New. -/
import Derived.Test.YtfagdpfgifgnoaaGreatDoorMb13
import Derived.Test.YtfagdpfgifgnoaaGreatDoorFr10
import Derived.Test.YtfagdpfgifgnoaaGreatDoorRt10
import Derived.Test.YtfagdpfgifgnoaaGreatDoorRfz
import Derived.Test.YtfagdpfgifgnoaaGreatDoorEc9
set_option linter.unusedVariables false
set_option linter.unusedSimpArgs false
set_option maxRecDepth 100000
set_option maxHeartbeats 8000000
namespace Go.Proofs.YtfagdpfgifgnoaaGreatDoor
variable {a:Addr} {cs:Array Value} {pre:List PV} {l:List UInt8} {g N bD:Nat} {X:Nat→Prop} {row:Option Nat} {q:PV} {t:TypeId} {x0 x1 x2 x3 x4 x5 x6 v lv pv v3:Value} {w W W' A B w3:World}
section
open Go.RowKit
attribute [local go_sem] Oper.semAt_some
section
structure CU (w:World) (N g bD:Nat) (l:List UInt8) (X:Nat→Prop) (pre:List PV) (W:World):Prop where
  ex:∃lv pv,jF W g l (gN iV pre) pre lv pv∧W.ownsRow N 96 7 lv pre.length (dy pre)∧∀k,lv.ownBlock=some k→¬X k
  bd:Bk W bD 43 #[.pointer (some ⟨g,0,none⟩)]
  hg:¬X g
  hd:¬X bD
  hb:Below w.heap.size w W
  hN:N≤W.heap.size
  xb:∀k,X k→w.heap.size≤k∧k<W.heap.size
theorem Bk.seven (h:Bk w g t #[x0,x1,x2,x3,x4,x5,x6]):w.cell? ⟨g,0,none⟩=some x0∧w.cell? ⟨g,1,none⟩=some x1∧w.cell? ⟨g,2,none⟩=some x2∧w.cell? ⟨g,3,none⟩=some x3∧w.cell? ⟨g,4,none⟩=some x4∧w.cell? ⟨g,5,none⟩=some x5∧w.cell? ⟨g,6,none⟩=some x6:=
  ⟨h.cell 0,h.cell 1,h.cell 2,h.cell 3,h.cell 4,h.cell 5,h.cell 6⟩
theorem Bk.five (h:Bk w g t #[x0,x1,x2,x3,x4]):w.cell? ⟨g,1,none⟩=some x1∧w.cell? ⟨g,2,none⟩=some x2∧w.cell? ⟨g,3,none⟩=some x3∧w.cell? ⟨g,4,none⟩=some x4∧w.frozen? ⟨g,1,none⟩=false∧w.frozen? ⟨g,2,none⟩=false∧w.frozen? ⟨g,3,none⟩=false∧w.frozen? ⟨g,4,none⟩=false:=
  ⟨h.cell 1,h.cell 2,h.cell 3,h.cell 4,h.frozen 1,h.frozen 2,h.frozen 3,h.frozen 4⟩
theorem jZ (h:W.cell? a=some v) (hg:W.grownBy W' row) (hr:∀k,row=some k→∃o,W.heap[k]? = some o∧o.isCells=false):W'.cell? a=some v:=by
  have hl:=gD h;have hb:W'.heap[a.block]? = W.heap[a.block]? := hg.block _ hl (fun e=>by
    obtain⟨o,ho,hc⟩:=hr _ e.symm;unfold World.cell? at h;rw[ho] at h
    cases o<;>first|(cases hc;done)|(simp at h;done))
  unfold World.cell? at h ⊢;rw[hb];exact h
theorem wD (h:Bk A g t cs) (hx:XG X A B) (hn:¬X g):B.heap[g]? = A.heap[g]? := hx.block g h.lt hn
theorem CU.fits (hgw:w.heap.size≤g) (hdw:w.heap.size≤bD) (h:CU w N g bD l X pre A) (hx:XG X A B) (hk:KC uc A B):CU w N g bD l (eH X A B) pre B:=by
  obtain⟨⟨lv,pv,h1,h2,h3⟩,h4,h5,h6,h7,h8,h9⟩:=h;have hsz:=hx.size;refine⟨⟨lv,pv,h1.kc hk (wD h1.bk hx h5) (by decide),DJ h2 hx h3,fun k hk2=>?_⟩,(wD h4 hx h6).trans h4,?_,?_,⟨hx.os.trans h7.1,hx.tape.trans h7.2,hx.output.trans h7.3,Nat.le_trans h7.size hx.size,fun k hk=>?_⟩,Nat.le_trans h8 hsz,fun k hk=>?_⟩
  ·rintro (hk3|hk3)
   ·exact h3 k hk2 hk3
   ·have:=(h2.lt k hk2).2;omega
  ·rintro (hk3|hk3)
   ·exact h5 hk3
   ·have:=h1.bk.lt;omega
  ·rintro (hk3|hk3)
   ·exact h6 hk3
   ·have:=h4.lt;omega
  ·exact(hx.block k (by have:=h7.size;omega) (fun h=>by have:=(h9 k h).1;omega)).trans (h7.block k hk)
  ·rcases hk with hk|hk
   ·have:=h9 k hk;omega
   ·have:=h7.size;omega
theorem CU.grown (h:CU w N g bD l X pre W) (hg:W.grownBy W' row) (hr:∀k,row=some k→w.heap.size≤k∧∃o,W.heap[k]? = some o∧o.isCells=false):CU w N g bD l X pre W':=by
  obtain⟨⟨lv,pv,h1,h2,h3⟩,h4,h5,h6,h7,h8,h9⟩:=h;have hne:∀{b t cs},Bk W b t cs→row≠some b:=fun hk e=>by
    obtain⟨_,o,ho,hc⟩:=hr _ e;rw[show W.heap[_]? = _ from hk] at ho
    cases ho
    cases hc
  have hR:∀k,row=some k→∃o,W.heap[k]? = some o∧o.isCells=false:=fun k hk=>(hr k hk).2
  have hrow:W'.ownsRow N 96 7 lv pre.length (dy pre):=by
    cases row with
    | none=>
      by_cases e:lv.ownBlock=none
      ·exact h2.kept hg (.inl e)
      ·exact h2.kept hg (.inr e)
    | some k=>
      refine h2.kept hg (.inr (fun e=>?_));obtain⟨_,o,ho,hc⟩:=hr k rfl;rw[cz h2 e ho] at hc
      cases hc
  refine⟨⟨lv,pv,⟨h1.bk.grown hg (fun e=>hne h1.bk e.symm),fun q hq=>(h1.ps q hq).grownX hg hR,h1.pv.grownX hg hR⟩,hrow,h3⟩,h4.grown hg (fun e=>hne h4 e.symm),h5,h6,h7.grown hg h7.size (fun k hk=>(hr k hk).1),Nat.le_trans h8 hg.size,fun k hk=>⟨(h9 k hk).1,Nat.lt_of_lt_of_le (h9 k hk).2 hg.size⟩⟩
theorem Eh (hgw:w.heap.size≤g) (hgN:g<N) (hD:jF W g l (gN iV pre) pre lv pv) (hrow:W.ownsRow N 96 7 lv pre.length (dy pre)) (hnx:∀k,lv.ownBlock=some k→¬X k) (hd:Bk W bD 43 #[.pointer (some ⟨g,0,none⟩)]) (hXg:¬X g) (hXd:¬X bD) (hB:Below w.heap.size w W) (hN:N≤W.heap.size) (hxb:∀k,X k→w.heap.size≤k∧k<W.heap.size) (hq:Rt W 134 2 q.v q.X.pd.length (bK q.X.pd)) (hy:Rt W 134 2 q.u q.Y.pd.length (bK q.Y.pd)) (hNw:w.heap.size≤N) (hg:((W.alloc (.cells (dy [q]).toArray 96)).drew).grownBy w3 lv.ownBlock) (hown:w3.ownsRow N 96 7 v3 (pre.length+1) (dy pre++dy [q])) (hv3:v3.ownBlock=lv.ownBlock∨v3.ownBlock=some ((W.alloc (.cells (dy [q]).toArray 96)).drew).heap.size) :
    ∀W5,W5=((((w3.setCell ⟨g,1,none⟩ v3).setCell ⟨g,2,none⟩ (.int .i64 q.Y.aw)).setCell ⟨g,3,none⟩ q.u).setCell ⟨g,4,none⟩ (.bool q.Y.bd)) →
     KeepsFrom N W W5∧KC Aj W W5∧(∀k,X k→W5.heap[k]? = W.heap[k]?)∧CU w N g bD l X (pre++[q]) W5:=by
  obtain⟨W1,hW1⟩:∃W1,W1=(W.alloc (.cells (dy [q]).toArray 96)).drew:=⟨_,rfl⟩;have hb1:Below W.heap.size W W1:=by rw[hW1];exact((Below.refl _ W).alloc (Nat.le_refl _) _).drew
  have hrow1:W1.ownsRow N 96 7 lv pre.length (dy pre):=aN hrow hb1;rw[←hW1] at hg hv3;clear hW1;have hs1:=hb1.size;have hkc:KC Aj W w3:=(KC.of_below hb1).grown hg (fun k hk=>by
    obtain⟨cs,t,fr,q1,q2⟩:=ij hrow1 k hk;exact⟨cs,t,fr,q1,by rw[q2];decide⟩)
  have kD3:Bk w3 g 90 _:=Bk.overrow (hD.bk.below hb1 hD.bk.lt) hrow1 hg (by decide);have kd3:Bk w3 bD 43 _:=Bk.overrow (hd.below hb1 hd.lt) hrow1 hg (by decide);have hgb:bD≠g:=fun e=>by
    subst e;have h9:=(show W.heap[bD]? = _ from hD.bk).symm.trans hd;injection h9 with h9
    injection h9 with _ h9
    exact absurd h9 (by decide)
  have hbel3:Below w.heap.size w w3:=Below.grown (hB.trans (hb1.mono hB.size)) hg (Nat.le_trans hB.size hs1) (fun k hk=>by have:=(hrow1.lt k hk).1;omega);rintro W5 rfl;have hgs:=aK (aK (aK (aK (bT w3 (some g)) 1 v3) 2 (.int .i64 q.Y.aw)) 3 q.u) 4 (.bool q.Y.bd);have kD5:=(((kD3.set 1 v3).set 2 (.int .i64 q.Y.aw)).set 3 q.u).set 4 (.bool q.Y.bd);have kc5:=(((hkc.set kD3 (by decide) 1 v3).set (kD3.set 1 v3) (by decide) 2 (.int .i64 q.Y.aw)).set ((kD3.set 1 v3).set 2 (.int .i64 q.Y.aw)) (by decide) 3 q.u).set (((kD3.set 1 v3).set 2 (.int .i64 q.Y.aw)).set 3 q.u) (by decide) 4 (.bool q.Y.bd);have hbel5:=hbel3.grown hgs hbel3.size (fun k hk=>by injection hk with hk;omega);have kd5:=kd3.grown hgs (fun e=>by injection e with e;exact hgb e);have hown5:=hown.kept hgs (.inr (fun e=>aL hown kD3 (by decide) e));generalize (((w3.setCell ⟨g,1,none⟩ v3).setCell ⟨g,2,none⟩ (.int .i64 q.Y.aw)).setCell ⟨g,3,none⟩ q.u).setCell ⟨g,4,none⟩ (.bool q.Y.bd)=W5 at hgs kD5 kc5 hbel5 kd5 hown5 ⊢;have same:∀k,k<w3.heap.size→k≠g→W5.heap[k]? = w3.heap[k]? := fun k hk hne=>hgs.block k hk (fun e=>hne (by injection e))
  have s3:W1.heap.size≤w3.heap.size:=hg.size;have hX:∀k,X k→W5.heap[k]? = W.heap[k]? := fun k hk=>by
    have h1:=(hxb k hk).2;rw[same k (by omega) (fun e=>hXg (e▸hk)),hg.block k (by omega) (fun e=>hnx k e.symm hk)];exact hb1.block k h1
  refine⟨⟨Nat.le_trans hs1 (Nat.le_trans s3 hgs.size),fun k o h1 h2 h3=>?_⟩,kc5,hX,⟨⟨v3,q.u,⟨by rw[jT];exact kD5,fun r hr=>?_,by rw[jT];exact hy.kc kc5 (by decide)⟩,by rw[ig,List.length_append];exact hown5,fun k hk hX2=>?_⟩,kd5,hXg,hXd,hbel5,by have:=hgs.size;omega,fun k hk=>⟨(hxb k hk).1,by have:=hgs.size;have:=(hxb k hk).2;omega⟩⟩⟩
  ·have hk1:=(Array.getElem?_eq_some_iff.1 h2).1;have hk3:k≠g:=by omega
   rw[same k (by omega) hk3,hg.block k (by omega) (fun e=>by
     obtain⟨cs,t,fr,q1,q2⟩:=ij hrow1 k e.symm;rw[hb1.block k hk1,h2] at q1;injection q1 with q1
     rw[q1] at h3
     cases h3)]
   exact(hb1.block k hk1).trans h2
  ·rcases List.mem_append.1 hr with hr|hr
   ·exact(hD.ps r hr).kc kc5 (by decide)
   ·obtain rfl:r=q:=by simpa using hr
    exact hq.kc kc5 (by decide)
  ·rcases hv3 with hv3|hv3
   ·exact hnx k (hv3.symm.trans hk) hX2
   ·rw[hv3] at hk;injection hk with hk
    have:=(hxb k hX2).2
    omega
attribute [-go_sem] Builtin.append_
theorem FW (l:List UInt8) (w:World) (hl:l.length≤900) :
    Calls Tryz.prog 41 #[.string ⟨l.toArray⟩] w fun e w'=>∃g,e=.returned (.tuple #[.pointer (some ⟨g,0,none⟩),.int .i64 0])∧w.heap.size≤g∧mE w' g l∧Below w.heap.size w w':=by
  obtain⟨i0,hi,hz0,hz1,hz2⟩:=info_parts Tryz.infoPlace;have u1:¬(1048576:Int)<(l.length:Int):=by omega
  refine(callsIn_wide (n:=5)).1 ?_;refine callsIn_of_wp_marks Tryz.func41 rfl trivial ?_ rfl;simp only[Tryz.ntmps41,List.size_toArray,List.length_cons,List.length_nil,Nat.reduceAdd,Nat.reduceSub,Array.replicate_succ,Array.replicate_zero,List.push_toArray,List.append_toArray,List.nil_append,List.cons_append];gi_wp2_with (
    (refine⟨trivial,?_⟩;gi_at_call 62;refine(callsIn_wide.2 (nH l 0 iV none 0 0 _)).mono ?_;rintro e w2 ⟨rfl,rfl⟩))
  obtain⟨W0,hW0⟩:∃W0,((((w.alloc (.cells #[.string ⟨l.toArray⟩,.slice none 0 0,.int .i64 0,.slice none 0 0,.bool false] 90)).alloc (.cells #[.pointer (some ⟨w.heap.size,0,none⟩)] 43)).alloc (.cells #[.string ⟨l.toArray⟩] 9)).alloc (.cells #[.int .i64 0] 3)).alloc (.cells #[.int .i64 iV.aw,.slice none 0 0,.bool iV.bd] 88)=W0:=⟨_,rfl⟩;have hs0:W0.heap.size=w.heap.size+5:=by rw[←hW0];simp
  have hb0:Below w.heap.size w W0:=by rw[←hW0];exact(((((Below.refl _ w).alloc (Nat.le_refl _) _).alloc (by simp) _).alloc (by simp<;>omega) _).alloc (by simp<;>omega) _).alloc (by simp<;>omega) _
  have kG:Bk W0 w.heap.size 90 #[.string ⟨l.toArray⟩,.slice none 0 0,.int .i64 0,.slice none 0 0,.bool false]:=by rw[←hW0];exact((((Bk.new w _ _).alloc _).alloc _).alloc _).alloc _
  have kD:Bk W0 (w.heap.size+1) 43 #[.pointer (some ⟨w.heap.size,0,none⟩)]:=by rw[←hW0];exact(((aW w _ _ _ _).alloc _).alloc _).alloc _
  have kS:Bk W0 (w.heap.size+1+1) 9 #[.string ⟨l.toArray⟩]:=by rw[←hW0];exact Bk.alloc (Bk.alloc (by simpa using Bk.new ((w.alloc _).alloc _) 9 _) _) _
  have kA:Bk W0 (w.heap.size+1+1+1) 3 #[.int .i64 ((0:Nat):Int)]:=by rw[←hW0];exact Bk.alloc (by simpa using Bk.new (((w.alloc _).alloc _).alloc _) 3 _) _
  have kX:Bk W0 (w.heap.size+1+1+1+1) 88 #[.int .i64 iV.aw,.slice none 0 0,.bool iV.bd]:=by rw[←hW0];simpa using Bk.new ((((w.alloc _).alloc _).alloc _).alloc _) 88 _
  rw[hW0];clear hW0;have hO:∀X,OwnFrom W0.heap.size (fun pre W=>CU w W0.heap.size w.heap.size (w.heap.size+1) l X pre W):=fun X pre W W' row h hg hr=>h.grown hg (fun k hk=>⟨by have:=(hr k hk).1;omega,(hr k hk).2⟩)
  refine l6 (Ti:=uc) (by omega) (X0:=fun k=>k=w.heap.size+1+1+1∨k=w.heap.size+1+1+1+1) (by rintro k (rfl|rfl)<;>omega) (gf:=84) (lb:=#[.pointer (some ⟨w.heap.size+1+1+1,0,none⟩),.pointer (some ⟨w.heap.size+1+1,0,none⟩),.pointer (some ⟨w.heap.size+1+1+1+1,0,none⟩)]) rfl (enters_of Tryz.func84 (by kernel_rfl) rfl)
    (rW _ _ _ l 0 iV (.slice none 0 0) W0 hl (Nat.zero_le _) (Nat.le_refl _) kS kA kX (Rt.nil _ _ _) (by omega)) (fun h k=>h.trans k) (fun W l o o' hl h1 h2 h3=>KC.put W l o o' h1 h2) (Below.refl _ _) (fun _=>rfl)
    (fun X pre W=>CU w W0.heap.size w.heap.size (w.heap.size+1) l X pre W)
    (fun _ _ _ _=>False)
    ?fits (fun _ _ _ _ _ h _ _=>h) ?own (fun _ _ _ _ _ _ h _ _=>h)
    ⟨⟨_,_,⟨kG,(fun _ h=>by cases h),Rt.nil _ _ _⟩,World.ownsRow_nil _ _ _ _,(fun _ h=>by cases h)⟩,kD,(by rintro (h|h)<;>omega),(by rintro (h|h)<;>omega),hb0,Nat.le_refl _,(by rintro k (rfl|rfl)<;>omega)⟩
    (fun q a' W=>Rt W 134 2 q.v q.X.pd.length (bK q.X.pd)∧Rt W 134 2 q.u q.Y.pd.length (bK q.Y.pd)∧∃b1 b2 v,Bk W b1 96 (nX q).toArray∧Bk W b2 88 #[.int .i64 q.Y.aw,q.u,.bool q.Y.bd]∧(W.cell? ⟨w.heap.size,1,none⟩=some v∧v.ownBlock≠some b1)∧a'={tmps:=#[.string ⟨l.toArray⟩,undef,.pointer none,.int .i64 0,.pointer (some ⟨w.heap.size+1,0,none⟩),.pointer (some ⟨b1,0,none⟩),.pointer (some ⟨b2,0,none⟩),.string ⟨l.toArray⟩,.int .i64 (l.length:Int),.bool false,.string ⟨l.toArray⟩,.agg #[.string ⟨l.toArray⟩,.slice none 0 0,.int .i64 0,.slice none 0 0,.bool false],.pointer (some ⟨w.heap.size,0,none⟩),.string ⟨l.toArray⟩,.agg #[.int .i64 0,.slice none 0 0,.bool false],.func (.func 84) #[] #[.pointer (some ⟨w.heap.size+1+1+1,0,none⟩),.pointer (some ⟨w.heap.size+1+1,0,none⟩),.pointer (some ⟨w.heap.size+1+1+1+1,0,none⟩)],.agg (nX q).toArray,.agg #[.int .i64 q.Y.aw,q.u,.bool q.Y.bd],undef,undef,undef,undef,undef,undef,undef,undef,undef,undef,undef,undef,undef,undef,undef],defers:=[]})
    ?ownA ?assign ?body ?done ?stop
  case fits=>exact fun X pre A B h hx hk=>h.fits (Nat.le_refl _) (by omega) hx hk
  case own=>exact hO
  case ownA=>
    rintro q a' s W W' row ⟨h0,h1,b1,b2,v,h2,h3,⟨h4,h5⟩,rfl⟩ hg hr;have hB:∀g t cs,Bk W g t cs→Bk W' g t cs:=fun g t cs h=>h.grown hg (fun e=>by
      obtain⟨_,o,ho,hc⟩:=hr _ e.symm;rw[show W.heap[g]? = _ from h] at ho
      cases ho
      cases hc)
    exact⟨h0.grownX hg (fun k hk=>(hr k hk).2),h1.grownX hg (fun k hk=>(hr k hk).2),b1,b2,v,hB _ _ _ h2,hB _ _ _ h3,⟨jZ h4 hg (fun k hk=>(hr k hk).2),h5⟩,rfl⟩
  case assign=>
    rintro l' X pre ⟨qt,qX,qv,qY,qu⟩ W K hI hSt hD hK;obtain⟨hD1,hD2⟩:=hD;replace hD1:Rt W 134 2 qv qX.pd.length (bK qX.pd):=hD1;replace hD2:Rt W 134 2 qu qY.pd.length (bK qY.pd):=hD2;obtain⟨Av,cv,rfl⟩:=hD1.form;obtain⟨Au,cu,rfl⟩:=hD2.form;gi_wp2;obtain⟨lv,pv,hdoc,hrow,hnx⟩:=hI.ex;have hb:Below W.heap.size W ((W.alloc (.cells (nX ⟨qt,qX,.slice Av qX.pd.length cv,qY,.slice Au qY.pd.length cu⟩).toArray 96)).alloc (.cells #[.int .i64 qY.aw,.slice Au qY.pd.length cu,.bool qY.bd] 88)):=((Below.refl _ W).alloc (Nat.le_refl _) _).alloc (by simp) _;exact hK _ _ (dN hb) (KC.of_below hb) (fun k hk=>hb.block k (hI.xb k hk).2) ((hO X).alloc _ ((hO X).alloc _ hI)) ⟨hD1.next hb,hD2.next hb,_,_,lv,(Bk.new W _ _).alloc _,aW W _ _ _ _,⟨eE (eE (by rw[hdoc.bk.cell];rfl)),fun e=>by have:=(hrow.lt _ e).2;omega⟩,rfl⟩
  case body=>
    rintro l' X pre ⟨qt,qX,qv,qY,qu⟩ a' W hl1 hl2 ⟨⟨lv,pv,hdoc,hrow,hnx⟩,hbd,hXg,hXd,hB,hN,hxb⟩ ⟨hr1,hr2,b1,b2,v1,k1,k2,⟨hv1,hv2⟩,rfl⟩ hSt;obtain rfl:lv=v1:=by rw[hdoc.bk.cell] at hv1;injection hv1
    have hlen:=hSt.len;simp only[List.length_append,List.length_singleton] at hlen;replace hr1:Rt W 134 2 qv qX.pd.length (bK qX.pd):=hr1;replace hr2:Rt W 134 2 qu qY.pd.length (bK qY.pd):=hr2;obtain⟨Av,cv,rfl⟩:=hr1.form;obtain⟨Au,cu,rfl⟩:=hr2.form;replace k1:Bk W b1 96 #[.int .i64 (qt.kd:Int),.int .i64 (qt.fr:Int),.int .i64 (qt.to:Int),.bool qt.op,.int .i64 qX.aw,.slice Av qX.pd.length cv,.bool qX.bd]:=k1;replace k2:Bk W b2 88 #[.int .i64 qY.aw,.slice Au qY.pd.length cu,.bool qY.bd]:=k2;have hmix:Tryz.prog.follows .mixedOrders=true:=by kernel_rfl
    gi_wp2_with fail;obtain⟨S0,hS0⟩:∃S0:World→Prop,S0=fun w'=>Bk w' (w.heap.size+1) 43 #[.pointer (some ⟨w.heap.size,0,none⟩)]∧Bk w' b1 96 #[.int .i64 (qt.kd:Int),.int .i64 (qt.fr:Int),.int .i64 (qt.to:Int),.bool qt.op,.int .i64 qX.aw,.slice Av qX.pd.length cv,.bool qX.bd]∧Bk w' b2 88 #[.int .i64 qY.aw,.slice Au qY.pd.length cu,.bool qY.bd]:=⟨_,rfl⟩
    refine du (S:=S0) hmix (by decide +kernel) (by rintro ⟨a,w,h⟩;exact h) ?_;have hS1:S0 W.drew:=by rw[hS0];exact⟨hbd,k1,k2⟩
    have t1:∀w',S0 w'→w'.cell? ⟨w.heap.size+1,0,none⟩=some (.pointer (some ⟨w.heap.size,0,none⟩)):=fun w' h=>by rw[hS0] at h;exact Boxed.cell h.1
    have t2:∀w',S0 w'→_:=fun w' h=>Bk.seven (by rw[hS0] at h;exact h.2.1)
    have t3:∀w',S0 w'→_:=fun w' h=>Bk.three (by rw[hS0] at h;exact h.2.2)
    refine tk 0 (.pointer (some ⟨w.heap.size,0,none⟩)) hS1 (fun w' hS=>?_) ?_
    ·have c:=t1 w' hS;go_simp
    refine tk 1 (.pointer (some ⟨w.heap.size,0,none⟩)) hS1 (fun w' hS=>?_) ?_
    ·have c:=t1 w' hS;go_simp
    refine tk 2 (.pointer (some ⟨w.heap.size,0,none⟩)) hS1 (fun w' hS=>?_) ?_
    ·have c:=t1 w' hS;go_simp
    refine tk 3 (.pointer (some ⟨w.heap.size,0,none⟩)) hS1 (fun w' hS=>?_) ?_
    ·go_simp
    refine tk 4 (.pointer (some ⟨w.heap.size,1,none⟩)) hS1 (fun w' hS=>?_) ?_
    ·go_simp
    refine tk 6 (.agg #[.int .i64 (qt.kd:Int),.int .i64 (qt.fr:Int),.int .i64 (qt.to:Int),.bool qt.op,.int .i64 qX.aw,.slice Av qX.pd.length cv,.bool qX.bd]) hS1 (fun w' hS=>?_) ?_
    ·obtain⟨c0,c1,c2,c3,c4,c5,c6⟩:=t2 w' hS;go_simp
    refine tk 9 (.agg #[.int .i64 qY.aw,.slice Au qY.pd.length cu,.bool qY.bd]) hS1 (fun w' hS=>?_) ?_
    ·obtain⟨c0,c1,c2,_⟩:=t3 w' hS;go_simp
    have y1:W.cell? ⟨w.heap.size,1,none⟩=some lv:=by rw[hdoc.bk.cell];rfl
    have y2:W.drew.cell? ⟨w.heap.size,1,none⟩=some lv:=y1;have ne1:b1≠w.heap.size:=fun e=>by
      subst e;have h9:=(show W.heap[_]? = _ from k1).symm.trans hdoc.bk;injection h9 with h9
      injection h9 with _ h9
      exact absurd h9 (by decide)
    have ne2:b2≠w.heap.size:=fun e=>by
      subst e;have h9:=(show W.heap[_]? = _ from k2).symm.trans hdoc.bk;injection h9 with h9
      injection h9 with _ h9
      exact absurd h9 (by decide)
    have hSet:∀w' i v,S0 w'→S0 (w'.setCell ⟨w.heap.size,i,none⟩ v):=fun w' i v h=>by
      rw[hS0] at h ⊢;exact⟨h.1.far (p:=⟨w.heap.size,i,none⟩) (by simp) v,h.2.1.far (p:=⟨w.heap.size,i,none⟩) ne1 v,h.2.2.far (p:=⟨w.heap.size,i,none⟩) ne2 v⟩
    obtain⟨Wa,hWa⟩:∃Wa,Wa=(W.alloc (.cells #[.int .i64 (qt.kd:Int),.int .i64 (qt.fr:Int),.int .i64 (qt.to:Int),.bool qt.op,.int .i64 qX.aw,.slice Av qX.pd.length cv,.bool qX.bd] 96)).drew:=⟨_,rfl⟩;have hSa:S0 (W.alloc (.cells #[.int .i64 (qt.kd:Int),.int .i64 (qt.fr:Int),.int .i64 (qt.to:Int),.bool qt.op,.int .i64 qX.aw,.slice Av qX.pd.length cv,.bool qX.bd] 96)).drew:=by rw[hS0];exact⟨Bk.alloc hbd _,Bk.alloc k1 _,Bk.alloc k2 _⟩
    have y3:(W.alloc (.cells #[.int .i64 (qt.kd:Int),.int .i64 (qt.fr:Int),.int .i64 (qt.to:Int),.bool qt.op,.int .i64 qX.aw,.slice Av qX.pd.length cv,.bool qX.bd] 96)).drew.cell? ⟨w.heap.size,1,none⟩=some lv:=eE y1;have rowa:(W.alloc (.cells #[.int .i64 (qt.kd:Int),.int .i64 (qt.fr:Int),.int .i64 (qt.to:Int),.bool qt.op,.int .i64 qX.aw,.slice Av qX.pd.length cv,.bool qX.bd] 96)).drew.ownsRow W0.heap.size 96 7 lv pre.length (dy pre):=hrow.alloc _;have rda:Rd (W.alloc (.cells #[.int .i64 (qt.kd:Int),.int .i64 (qt.fr:Int),.int .i64 (qt.to:Int),.bool qt.op,.int .i64 qX.aw,.slice Av qX.pd.length cv,.bool qX.bd] 96)).drew (W.heap.size+1) 7 (.slice (some ⟨W.heap.size,0,none⟩) 1 1) 1 (dy [⟨qt,qX,.slice Av qX.pd.length cv,qY,.slice Au qY.pd.length cu⟩]):=eM W (dy [⟨qt,qX,.slice Av qX.pd.length cv,qY,.slice Au qY.pd.length cu⟩]) 96 7 1 rfl (by omega);have one1:∀u∈dy [⟨qt,qX,.slice Av qX.pd.length cv,qY,.slice Au qY.pd.length cu⟩],u.oneCell'=true:=mK (fun q hq=>by rw[List.mem_singleton.1 hq];exact⟨_,_,_,rfl⟩);have HX:=Lib.hid (And.intro hbd (And.intro k1 (And.intro k2 (And.intro hdoc (And.intro hrow (And.intro hr1 (And.intro hr2 (And.intro hS0 (And.intro rowa (And.intro rda (And.intro one1 (And.intro hv2 (And.intro ne1 ne2)))))))))))));have HN:=Lib.hid (And.intro hnx (And.intro hSt (And.intro hB (And.intro hN hxb))));clear hbd k1 k2 hdoc hrow hr1 hr2 hS0 t1 t2 t3 hnx hSt hB hN hxb rowa rda one1 hv1 hv2 hWa Wa;refine wpAnyH_all (rs:=[5,7]) (by decide +kernel) (by simp) (aP rfl (by rfl) (fun K hK=>?_) (aP rfl (by rfl) (fun K hK=>?_) (bz (S:=S0))))
    repeat' (first
      | (revert hK
         intro hK;go_simp;refine hK _ _ ?_ ?_
         ·first|assumption|(iterate 4 (refine hSet _ _ _ ?_))<;>assumption|(refine hSet _ _ _ ?_;assumption)
         clear hK K)
      | (refine wpAnyH_all (rs:=[8]) (by decide +kernel) (by simp) (aP rfl (by rfl) (fun K hK=>?_) (bz (S:=S0)));refine eh (.tmp 23) (.tmp 25) 85 rfl W0.heap.size 96 i0 _ 7 72 Tryz.underlying85 hi hz0 hz1 hz2 rfl (by decide) lv pre.length (dy pre) rfl HX.out.2.2.2.2.2.2.2.2.1 (.slice (some ⟨W.heap.size,0,none⟩) 1 1) 1 (W.heap.size+1) _ rfl HX.out.2.2.2.2.2.2.2.2.2.1 HX.out.2.2.2.2.2.2.2.2.2.2.1 (by unfold maxLen;omega) (by omega) (by simp;have:=HN.out.2.2.2.1;omega) ?_;intro v3 w3 hown3 hg3 hv3;have kD3:Bk w3 w.heap.size 90 #[.string ⟨l.toArray⟩,lv,.int .i64 (gN iV pre).aw,pv,.bool (gN iV pre).bd]:=Bk.overrow (Bk.drew (Bk.alloc HX.out.2.2.2.1.bk _)) HX.out.2.2.2.2.2.2.2.2.1 hg3 (by decide);obtain⟨d1,d2,d3,d4,d5,d6,d7,d8⟩:=Bk.five kD3;have hS3:S0 w3:=by
           rw[HX.out.2.2.2.2.2.2.2.1];exact⟨Bk.overrow (Bk.drew (Bk.alloc HX.out.1 _)) HX.out.2.2.2.2.2.2.2.2.1 hg3 (by decide),(Bk.drew (Bk.alloc HX.out.2.1 _)).grown hg3 (fun e=>HX.out.2.2.2.2.2.2.2.2.2.2.2.1 e.symm),Bk.overrow (Bk.drew (Bk.alloc HX.out.2.2.1 _)) HX.out.2.2.2.2.2.2.2.2.1 hg3 (by decide)⟩
         obtain⟨A3,n3,c3,rfl⟩:=az hown3;have H3:=Lib.hid (And.intro hown3 (And.intro hg3 hv3));clear hown3 hg3 hv3 kD3;refine hK _ _ hS3 ?_;clear hK K)
      | refine wpAnyH_all (rs:=[7]) (by decide +kernel) (by simp) (aP rfl (by rfl) (fun K hK=>?_) (bz (S:=S0)))
      | refine wpAnyH_all (rs:=[5]) (by decide +kernel) (by simp) (aP rfl (by rfl) (fun K hK=>?_) (bz (S:=S0)))
      | refine wpAnyH_all (rs:=[10]) (by decide +kernel) (by simp) (aP rfl (by rfl) (fun K hK=>?_) (bz (S:=S0)))
      | refine wpAnyH_all (rs:=[11]) (by decide +kernel) (by simp) (aP rfl (by rfl) (fun K hK=>?_) (bz (S:=S0)))
      | refine wpAnyH_all (rs:=[12]) (by decide +kernel) (by simp) (aP rfl (by rfl) (fun K hK=>?_) (bz (S:=S0)))
      | refine wpAnyH_all (rs:=[13]) (by decide +kernel) (by simp) (aP rfl (by rfl) (fun K hK=>?_) (bz (S:=S0)))
      | refine wpAnyH_all (rs:=[14]) (by decide +kernel) (by simp) (aP rfl (by rfl) (fun K hK=>?_) (bz (S:=S0)))
      | refine wpAnyH_all (rs:=[15]) (by decide +kernel) (by simp) (aP rfl (by rfl) (fun K hK=>?_) (bz (S:=S0)))
      | (refine wpAnyH_done (by decide +kernel) ?_ _;(obtain⟨o1,o2,o3⟩:=H3.out;exact Eh (q:=⟨qt,qX,.slice Av qX.pd.length cv,qY,.slice Au qY.pd.length cu⟩) (Nat.le_refl _) (by omega) HX.out.2.2.2.1 HX.out.2.2.2.2.1 HN.out.1 HX.out.1 hXg hXd HN.out.2.2.1 HN.out.2.2.2.1 HN.out.2.2.2.2 HX.out.2.2.2.2.2.1 HX.out.2.2.2.2.2.2.1 (by omega) o2 o1 o3 _ rfl))
      | fail)
  case done=>
    rintro D X ys W hD hys ⟨⟨lv,pv,hdoc,hrow,hnx⟩,hbd,hXg,hXd,hB,hN,hxb⟩ hK;obtain⟨e1,e2⟩:=qI hys;have hc:W.cell? ⟨w.heap.size+1,0,none⟩=some (.pointer (some ⟨w.heap.size,0,none⟩)):=by rw[hbd.cell];rfl
    have HZ:=Lib.hid (And.intro hdoc (And.intro hrow (And.intro hB (And.intro hK (And.intro e1 e2)))));clear hdoc hrow hB hK e1 e2 hys hbd hxb;gi_wp2_with fail;obtain⟨h1,h2,h3,h4,h5,h6⟩:=HZ.out;refine⟨by simp,.inl ⟨_,_,rfl,run_takeDeferred h4,?_⟩⟩;have hbk:=belowK_b (w:=w) (Nat.le_refl _) W D (.deferred (some [])) (.deferred none) (by omega) h4 rfl rfl;have hg:=grownBy_putObj' W D (.deferred none);have hne:∀k,some D=some k→∃o,W.heap[k]? = some o∧o.isCells=false:=fun k hk=>by injection hk with hk;subst hk;exact⟨_,h4,rfl⟩
    refine⟨.tuple #[.pointer (some ⟨w.heap.size,0,none⟩),.int .i64 0],by simp[results,Tryz.results41,go_sem],⟨w.heap.size,rfl,Nat.le_refl _,⟨ys,lv,pv,h5,?_,?_⟩,h3.trans hbk⟩⟩
    ·rw[show (dV l).2=gN iV ys from h6.symm];exact⟨(World.putObj_heap_other (by omega)).trans h1.bk,fun q hq=>(h1.ps q hq).grownX hg hne,h1.pv.grownX hg hne⟩
    ·exact Rt.of_own (h2.kept hg (.inr (fun e=>by have:=cz h2 e h4;cases this)))
  case stop=>
    intro D c X pre W _ _ h _;exact h.elim
end
end
end Go.Proofs.YtfagdpfgifgnoaaGreatDoor
