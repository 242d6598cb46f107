/- Package relex: New. -/
import Derived.Test.YtmclohkaiemnaaaGreatDoorMb13
import Derived.Test.YtmclohkaiemnaaaGreatDoorFr10
import Derived.Test.YtmclohkaiemnaaaGreatDoorRt10
import Derived.Test.YtmclohkaiemnaaaGreatDoorRfz
import Derived.Test.YtmclohkaiemnaaaGreatDoorEc9
set_option linter.unusedVariables false
set_option linter.unusedSimpArgs false
set_option maxRecDepth 100000
set_option maxHeartbeats 8000000
namespace Go.Proofs.YtmclohkaiemnaaaGreatDoor
open Go.RowKit
variable {a:Addr} {cs:Array Value} {ed:Ed} {tl:Int} {pre zs ys xs:List PV} {T:List TypeId} {l:List UInt8} {Y Y' Z0:Lx} {g N bD b1 b2 b3 K j i k:Nat} {X:Nat→Prop} {row:Option Nat} {q r:PV} {P:Prop} {t:TypeId} {x0 x1 x2 x3 x4 x5 x6 v lv pv v3 u:Value} {w W W' A B w3 W1 W5:World} (n:Int)
section
open Go.RowKit
attribute [local go_sem] Oper.semAt_some
section
structure Kz (w:World) (N g bD:Nat) (l:List UInt8) (X:Nat→Prop) (pre:List PV) (W:World):Prop where
  ex:∃lv pv,qP W g l (mq mZ pre) pre lv pv∧W.ownsRow N 94 7 lv pre.length (iB pre)∧∀k,lv.ownBlock=some k→¬X k
  bd:Bk W bD 62 #[.pointer (some ⟨g,0,none⟩)]
  hg:¬X g
  hd:¬X bD
  hb:Below w.heap.size w W
  hN:N≤W.heap.size
  xb:∀k,X k→w.heap.size≤k∧k<W.heap.size
theorem Bk.seven (h:Bk w g t #[x0,x1,x2,x3,x4,x5,x6]):w.cell? ⟨g,0,none⟩=some x0∧w.cell? ⟨g,1,none⟩=some x1∧w.cell? ⟨g,2,none⟩=some x2∧w.cell? ⟨g,3,none⟩=some x3∧w.cell? ⟨g,4,none⟩=some x4∧w.cell? ⟨g,5,none⟩=some x5∧w.cell? ⟨g,6,none⟩=some x6:=
  ⟨h.cell 0,h.cell 1,h.cell 2,h.cell 3,h.cell 4,h.cell 5,h.cell 6⟩
theorem Bk.five (h:Bk w g t #[x0,x1,x2,x3,x4]):w.cell? ⟨g,1,none⟩=some x1∧w.cell? ⟨g,2,none⟩=some x2∧w.cell? ⟨g,3,none⟩=some x3∧w.cell? ⟨g,4,none⟩=some x4∧w.frozen? ⟨g,1,none⟩=false∧w.frozen? ⟨g,2,none⟩=false∧w.frozen? ⟨g,3,none⟩=false∧w.frozen? ⟨g,4,none⟩=false:=
  ⟨h.cell 1,h.cell 2,h.cell 3,h.cell 4,h.frozen 1,h.frozen 2,h.frozen 3,h.frozen 4⟩
theorem pH (h:W.cell? a=some v) (hg:W.grownBy W' row) (hr:∀k,row=some k→∃o,W.heap[k]? = some o∧o.isCells=false):W'.cell? a=some v:=by
  have hl:=jS h;have hb:W'.heap[a.block]? = W.heap[a.block]? := hg.block _ hl (fun e=>by
    obtain⟨o,ho,hc⟩:=hr _ e.symm;unfold World.cell? at h;rw[ho] at h
    cases o<;>first|(cases hc;done)|(simp at h;done))
  unfold World.cell? at h ⊢;rw[hb];exact h
theorem qR (h:Bk A g t cs) (hx:XG X A B) (hn:¬X g):B.heap[g]? = A.heap[g]? := hx.block g h.lt hn
theorem Kz.fits (hgw:w.heap.size≤g) (hdw:w.heap.size≤bD) (h:Kz w N g bD l X pre A) (hx:XG X A B) (hk:KC zi A B):Kz w N g bD l (jH X A B) pre B:=by
  obtain⟨⟨lv,pv,h1,h2,h3⟩,h4,h5,h6,h7,h8,h9⟩:=h;have hsz:=hx.size;refine⟨⟨lv,pv,h1.kc hk (qR h1.bk hx h5) (by decide),E6 h2 hx h3,fun k hk2=>?_⟩,(qR h4 hx h6).trans h4,?_,?_,⟨hx.os.trans h7.1,hx.tape.trans h7.2,hx.output.trans h7.3,aA h7.size hx.size,fun k hk=>?_⟩,aA h8 hsz,fun k hk=>?_⟩
  ·rintro (hk3|hk3)
   ·exact h3 k hk2 hk3
   ·have:=(h2.lt k hk2).2;omega
  ·rintro (hk3|hk3)
   ·exact h5 hk3
   ·have:=h1.bk.lt;omega
  ·rintro (hk3|hk3)
   ·exact h6 hk3
   ·have:=h4.lt;omega
  ·exact(hx.block k (by have:=h7.size;omega) (fun h=>by have:=(h9 k h).1;omega)).trans (h7.block k hk)
  ·rcases hk with hk|hk
   ·have:=h9 k hk;omega
   ·have:=h7.size;omega
theorem Kz.grown (h:Kz w N g bD l X pre W) (hg:W.grownBy W' row) (hr:∀k,row=some k→w.heap.size≤k∧∃o,W.heap[k]? = some o∧o.isCells=false):Kz w N g bD l X pre W':=by
  obtain⟨⟨lv,pv,h1,h2,h3⟩,h4,h5,h6,h7,h8,h9⟩:=h;have hne:∀{b t cs},Bk W b t cs→row≠some b:=fun hk e=>by
    obtain⟨_,o,ho,hc⟩:=hr _ e;rw[show W.heap[_]? = _ from hk] at ho
    cases ho
    cases hc
  have hR:∀k,row=some k→∃o,W.heap[k]? = some o∧o.isCells=false:=fun k hk=>(hr k hk).2
  have hrow:W'.ownsRow N 94 7 lv pre.length (iB pre):=by
    cases row with
    | none=>
      by_cases e:lv.ownBlock=none
      ·exact h2.kept hg (.inl e)
      ·exact h2.kept hg (.inr e)
    | some k=>
      refine h2.kept hg (.inr (fun e=>?_));obtain⟨_,o,ho,hc⟩:=hr k rfl;rw[gJ h2 e ho] at hc
      cases hc
  refine⟨⟨lv,pv,⟨h1.bk.grown hg (fun e=>hne h1.bk e.symm),fun q hq=>(h1.ps q hq).grownX hg hR,h1.pv.grownX hg hR⟩,hrow,h3⟩,h4.grown hg (fun e=>hne h4 e.symm),h5,h6,h7.grown hg h7.size (fun k hk=>(hr k hk).1),aA h8 hg.size,fun k hk=>⟨(h9 k hk).1,bQ (h9 k hk).2 hg.size⟩⟩
theorem Mr (hgw:w.heap.size≤g) (hgN:g<N) (hD:qP W g l (mq mZ pre) pre lv pv) (hrow:W.ownsRow N 94 7 lv pre.length (iB pre)) (hnx:∀k,lv.ownBlock=some k→¬X k) (hd:Bk W bD 62 #[.pointer (some ⟨g,0,none⟩)]) (hXg:¬X g) (hXd:¬X bD) (hB:Below w.heap.size w W) (hN:N≤W.heap.size) (hxb:∀k,X k→w.heap.size≤k∧k<W.heap.size) (hq:Rt W 120 2 q.v q.X.pd.length (fQ q.X.pd)) (hy:Rt W 120 2 q.u q.Y.pd.length (fQ q.Y.pd)) (hNw:w.heap.size≤N) (hg:((W.alloc (.cells (iB [q]).toArray 94)).drew).grownBy w3 lv.ownBlock) (hown:w3.ownsRow N 94 7 v3 (pre.length+1) (iB pre++iB [q])) (hv3:v3.ownBlock=lv.ownBlock∨v3.ownBlock=some ((W.alloc (.cells (iB [q]).toArray 94)).drew).heap.size) :
    ∀W5,W5=((((w3.setCell ⟨g,1,none⟩ v3).setCell ⟨g,2,none⟩ (.int .i64 q.Y.aw)).setCell ⟨g,3,none⟩ q.u).setCell ⟨g,4,none⟩ (.bool q.Y.bd)) →
     KeepsFrom N W W5∧KC uC W W5∧(∀k,X k→W5.heap[k]? = W.heap[k]?)∧Kz w N g bD l X (pre++[q]) W5:=by
  obtain⟨W1,hW1⟩:∃W1,W1=(W.alloc (.cells (iB [q]).toArray 94)).drew:=⟨_,rfl⟩;have hb1:Below W.heap.size W W1:=by rw[hW1];exact((ay _ W).alloc (au _) _).drew
  have hrow1:W1.ownsRow N 94 7 lv pre.length (iB pre):=eC hrow hb1;rw[←hW1] at hg hv3;clear hW1;have hs1:=hb1.size;have hkc:KC uC W w3:=(KC.of_below hb1).grown hg (fun k hk=>by
    obtain⟨cs,t,fr,q1,q2⟩:=jR hrow1 k hk;exact⟨cs,t,fr,q1,by rw[q2];decide⟩)
  have kD3:Bk w3 g 87 _:=Bk.overrow (hD.bk.below hb1 hD.bk.lt) hrow1 hg (by decide);have kd3:Bk w3 bD 62 _:=Bk.overrow (hd.below hb1 hd.lt) hrow1 hg (by decide);have hgb:bD≠g:=fun e=>by
    subst e;have h9:=(show W.heap[bD]? = _ from hD.bk).symm.trans hd;injection h9 with h9
    injection h9 with _ h9
    exact absurd h9 (by decide)
  have hbel3:Below w.heap.size w w3:=dV (hB.trans (hb1.mono hB.size)) hg (aA hB.size hs1) (fun k hk=>by have:=(hrow1.lt k hk).1;omega);rintro W5 rfl;have hgs:=eJ (eJ (eJ (eJ (fA w3 (some g)) 1 v3) 2 (.int .i64 q.Y.aw)) 3 q.u) 4 (.bool q.Y.bd);have kD5:=(((kD3.set 1 v3).set 2 (.int .i64 q.Y.aw)).set 3 q.u).set 4 (.bool q.Y.bd);have kc5:=(((hkc.set kD3 (by decide) 1 v3).set (kD3.set 1 v3) (by decide) 2 (.int .i64 q.Y.aw)).set ((kD3.set 1 v3).set 2 (.int .i64 q.Y.aw)) (by decide) 3 q.u).set (((kD3.set 1 v3).set 2 (.int .i64 q.Y.aw)).set 3 q.u) (by decide) 4 (.bool q.Y.bd);have hbel5:=hbel3.grown hgs hbel3.size (fun k hk=>by injection hk with hk;omega);have kd5:=kd3.grown hgs (fun e=>by injection e with e;exact hgb e);have hown5:=hown.kept hgs (.inr (fun e=>eP hown kD3 (by decide) e));generalize (((w3.setCell ⟨g,1,none⟩ v3).setCell ⟨g,2,none⟩ (.int .i64 q.Y.aw)).setCell ⟨g,3,none⟩ q.u).setCell ⟨g,4,none⟩ (.bool q.Y.bd)=W5 at hgs kD5 kc5 hbel5 kd5 hown5 ⊢;have same:∀k,k<w3.heap.size→k≠g→W5.heap[k]? = w3.heap[k]? := fun k hk hne=>hgs.block k hk (fun e=>hne (by injection e))
  have s3:W1.heap.size≤w3.heap.size:=hg.size;have hX:∀k,X k→W5.heap[k]? = W.heap[k]? := fun k hk=>by
    have h1:=(hxb k hk).2;rw[same k (by omega) (fun e=>hXg (e▸hk)),hg.block k (by omega) (fun e=>hnx k e.symm hk)];exact hb1.block k h1
  refine⟨⟨aA hs1 (aA s3 hgs.size),fun k o h1 h2 h3=>?_⟩,kc5,hX,⟨⟨v3,q.u,⟨by rw[pB];exact kD5,fun r hr=>?_,by rw[pB];exact hy.kc kc5 (by decide)⟩,by rw[lJ,aD];exact hown5,fun k hk hX2=>?_⟩,kd5,hXg,hXd,hbel5,by have:=hgs.size;omega,fun k hk=>⟨(hxb k hk).1,by have:=hgs.size;have:=(hxb k hk).2;omega⟩⟩⟩
  ·have hk1:=(aJ.1 h2).1;have hk3:k≠g:=by omega
   rw[same k (by omega) hk3,hg.block k (by omega) (fun e=>by
     obtain⟨cs,t,fr,q1,q2⟩:=jR hrow1 k e.symm;rw[hb1.block k hk1,h2] at q1;injection q1 with q1
     rw[q1] at h3
     cases h3)]
   exact(hb1.block k hk1).trans h2
  ·rcases bM.1 hr with hr|hr
   ·exact(hD.ps r hr).kc kc5 (by decide)
   ·obtain rfl:r=q:=by simpa using hr
    exact hq.kc kc5 (by decide)
  ·rcases hv3 with hv3|hv3
   ·exact hnx k (hv3.symm.trans hk) hX2
   ·rw[hv3] at hk;injection hk with hk
    have:=(hxb k hX2).2
    omega
attribute [-go_sem] Builtin.append_
theorem Jv (l:List UInt8) (w:World) (hl:l.length≤900) :
    Calls Tryz.prog 30 #[.string ⟨l.toArray⟩] w fun e w'=>∃g,e=.returned (.tuple #[.pointer (some ⟨g,0,none⟩),.int .i64 0])∧w.heap.size≤g∧rU w' g l∧Below w.heap.size w w':=by
  obtain⟨i0,hi,hz0,hz1,hz2⟩:=cL Tryz.infoPlace;have u1:¬(1048576:Int)<(l.length:Int):=by omega
  refine(aX (n:=5)).1 ?_;refine callsIn_of_wp_marks Tryz.func30 rfl trivial ?_ rfl;simp only[Tryz.ntmps30,cJ,aL,cg,Nat.reduceAdd,Nat.reduceSub,cy,cz,cO,cH,cK,bH];gi_wp2_with (
    (refine⟨trivial,?_⟩;gi_at_call 48;refine(aX.2 (tU l 0 mZ none 0 0 _)).mono ?_;rintro e w2 ⟨rfl,rfl⟩))
  obtain⟨W0,hW0⟩:∃W0,((((w.alloc (.cells #[.string ⟨l.toArray⟩,.slice none 0 0,.int .i64 0,.slice none 0 0,.bool false] 87)).alloc (.cells #[.pointer (some ⟨w.heap.size,0,none⟩)] 62)).alloc (.cells #[.string ⟨l.toArray⟩] 9)).alloc (.cells #[.int .i64 0] 3)).alloc (.cells #[.int .i64 mZ.aw,.slice none 0 0,.bool mZ.bd] 85)=W0:=⟨_,rfl⟩;have hs0:W0.heap.size=w.heap.size+5:=by rw[←hW0];simp
  have hb0:Below w.heap.size w W0:=by rw[←hW0];exact(((((ay _ w).alloc (au _) _).alloc (by simp) _).alloc (by simp<;>omega) _).alloc (by simp<;>omega) _).alloc (by simp<;>omega) _
  have kG:Bk W0 w.heap.size 87 #[.string ⟨l.toArray⟩,.slice none 0 0,.int .i64 0,.slice none 0 0,.bool false]:=by rw[←hW0];exact((((Bk.new w _ _).alloc _).alloc _).alloc _).alloc _
  have kD:Bk W0 (w.heap.size+1) 62 #[.pointer (some ⟨w.heap.size,0,none⟩)]:=by rw[←hW0];exact(((fB w _ _ _ _).alloc _).alloc _).alloc _
  have kS:Bk W0 (w.heap.size+1+1) 9 #[.string ⟨l.toArray⟩]:=by rw[←hW0];exact Bk.alloc (Bk.alloc (by simpa using Bk.new ((w.alloc _).alloc _) 9 _) _) _
  have kA:Bk W0 (w.heap.size+1+1+1) 3 #[.int .i64 ((0:Nat):Int)]:=by rw[←hW0];exact Bk.alloc (by simpa using Bk.new (((w.alloc _).alloc _).alloc _) 3 _) _
  have kX:Bk W0 (w.heap.size+1+1+1+1) 85 #[.int .i64 mZ.aw,.slice none 0 0,.bool mZ.bd]:=by rw[←hW0];simpa using Bk.new ((((w.alloc _).alloc _).alloc _).alloc _) 85 _
  rw[hW0];clear hW0;have hO:∀X,OwnFrom W0.heap.size (fun pre W=>Kz w W0.heap.size w.heap.size (w.heap.size+1) l X pre W):=fun X pre W W' row h hg hr=>h.grown hg (fun k hk=>⟨by have:=(hr k hk).1;omega,(hr k hk).2⟩)
  refine sa (Ti:=zi) (by omega) (X0:=fun k=>k=w.heap.size+1+1+1∨k=w.heap.size+1+1+1+1) (by rintro k (rfl|rfl)<;>omega) (gf:=70) (lb:=#[.pointer (some ⟨w.heap.size+1+1+1,0,none⟩),.pointer (some ⟨w.heap.size+1+1,0,none⟩),.pointer (some ⟨w.heap.size+1+1+1+1,0,none⟩)]) rfl (enters_of Tryz.func70 (by kernel_rfl) rfl)
    (yL _ _ _ l 0 mZ (.slice none 0 0) W0 hl (bq _) (au _) kS kA kX (Rt.nil _ _ _) (by omega)) (fun h k=>h.trans k) (fun W l o o' hl h1 h2 h3=>KC.put W l o o' h1 h2) (ay _ _) (fun _=>rfl)
    (fun X pre W=>Kz w W0.heap.size w.heap.size (w.heap.size+1) l X pre W)
    (fun _ _ _ _=>False)
    ?fits (fun _ _ _ _ _ h _ _=>h) ?own (fun _ _ _ _ _ _ h _ _=>h)
    ⟨⟨_,_,⟨kG,(fun _ h=>by cases h),Rt.nil _ _ _⟩,de _ _ _ _,(fun _ h=>by cases h)⟩,kD,(by rintro (h|h)<;>omega),(by rintro (h|h)<;>omega),hb0,au _,(by rintro k (rfl|rfl)<;>omega)⟩
    (fun q a' W=>Rt W 120 2 q.v q.X.pd.length (fQ q.X.pd)∧Rt W 120 2 q.u q.Y.pd.length (fQ q.Y.pd)∧∃b1 b2 v,Bk W b1 94 (uq q).toArray∧Bk W b2 85 #[.int .i64 q.Y.aw,q.u,.bool q.Y.bd]∧(W.cell? ⟨w.heap.size,1,none⟩=some v∧v.ownBlock≠some b1)∧a'={tmps:=#[.string ⟨l.toArray⟩,undef,.pointer none,.int .i64 0,.pointer (some ⟨w.heap.size+1,0,none⟩),.pointer (some ⟨b1,0,none⟩),.pointer (some ⟨b2,0,none⟩),.string ⟨l.toArray⟩,.int .i64 (l.length:Int),.bool false,.string ⟨l.toArray⟩,.agg #[.string ⟨l.toArray⟩,.slice none 0 0,.int .i64 0,.slice none 0 0,.bool false],.pointer (some ⟨w.heap.size,0,none⟩),.string ⟨l.toArray⟩,.agg #[.int .i64 0,.slice none 0 0,.bool false],.func (.func 70) #[] #[.pointer (some ⟨w.heap.size+1+1+1,0,none⟩),.pointer (some ⟨w.heap.size+1+1,0,none⟩),.pointer (some ⟨w.heap.size+1+1+1+1,0,none⟩)],.agg (uq q).toArray,.agg #[.int .i64 q.Y.aw,q.u,.bool q.Y.bd],undef,undef,undef,undef,undef,undef,undef,undef,undef,undef,undef,undef,undef,undef,undef],defers:=[]})
    ?ownA ?assign ?body ?done ?stop
  case fits=>exact fun X pre A B h hx hk=>h.fits (au _) (by omega) hx hk
  case own=>exact hO
  case ownA=>
    rintro q a' s W W' row ⟨h0,h1,b1,b2,v,h2,h3,⟨h4,h5⟩,rfl⟩ hg hr;have hB:∀g t cs,Bk W g t cs→Bk W' g t cs:=fun g t cs h=>h.grown hg (fun e=>by
      obtain⟨_,o,ho,hc⟩:=hr _ e.symm;rw[show W.heap[g]? = _ from h] at ho
      cases ho
      cases hc)
    exact⟨h0.grownX hg (fun k hk=>(hr k hk).2),h1.grownX hg (fun k hk=>(hr k hk).2),b1,b2,v,hB _ _ _ h2,hB _ _ _ h3,⟨pH h4 hg (fun k hk=>(hr k hk).2),h5⟩,rfl⟩
  case assign=>
    rintro l' X pre ⟨qt,qX,qv,qY,qu⟩ W K hI hSt hD hK;obtain⟨hD1,hD2⟩:=hD;replace hD1:Rt W 120 2 qv qX.pd.length (fQ qX.pd):=hD1;replace hD2:Rt W 120 2 qu qY.pd.length (fQ qY.pd):=hD2;obtain⟨Av,cv,rfl⟩:=hD1.form;obtain⟨Au,cu,rfl⟩:=hD2.form;gi_wp2;obtain⟨lv,pv,hdoc,hrow,hnx⟩:=hI.ex;have hb:Below W.heap.size W ((W.alloc (.cells (uq ⟨qt,qX,.slice Av qX.pd.length cv,qY,.slice Au qY.pd.length cu⟩).toArray 94)).alloc (.cells #[.int .i64 qY.aw,.slice Au qY.pd.length cu,.bool qY.bd] 85)):=((ay _ W).alloc (au _) _).alloc (by simp) _;exact hK _ _ (ig hb) (KC.of_below hb) (fun k hk=>hb.block k (hI.xb k hk).2) ((hO X).alloc _ ((hO X).alloc _ hI)) ⟨hD1.next hb,hD2.next hb,_,_,lv,(Bk.new W _ _).alloc _,fB W _ _ _ _,⟨iy (iy (by rw[hdoc.bk.cell];rfl)),fun e=>by have:=(hrow.lt _ e).2;omega⟩,rfl⟩
  case body=>
    rintro l' X pre ⟨qt,qX,qv,qY,qu⟩ a' W hl1 hl2 ⟨⟨lv,pv,hdoc,hrow,hnx⟩,hbd,hXg,hXd,hB,hN,hxb⟩ ⟨hr1,hr2,b1,b2,v1,k1,k2,⟨hv1,hv2⟩,rfl⟩ hSt;obtain rfl:lv=v1:=by rw[hdoc.bk.cell] at hv1;injection hv1
    have hlen:=hSt.len;simp only[aD,bU] at hlen;replace hr1:Rt W 120 2 qv qX.pd.length (fQ qX.pd):=hr1;replace hr2:Rt W 120 2 qu qY.pd.length (fQ qY.pd):=hr2;obtain⟨Av,cv,rfl⟩:=hr1.form;obtain⟨Au,cu,rfl⟩:=hr2.form;replace k1:Bk W b1 94 #[.int .i64 (qt.kd:Int),.int .i64 (qt.fr:Int),.int .i64 (qt.to:Int),.bool qt.op,.int .i64 qX.aw,.slice Av qX.pd.length cv,.bool qX.bd]:=k1;replace k2:Bk W b2 85 #[.int .i64 qY.aw,.slice Au qY.pd.length cu,.bool qY.bd]:=k2;have hmix:Tryz.prog.follows .mixedOrders=true:=by kernel_rfl
    gi_wp2_with fail;obtain⟨S0,hS0⟩:∃S0:World→Prop,S0=fun w'=>Bk w' (w.heap.size+1) 62 #[.pointer (some ⟨w.heap.size,0,none⟩)]∧Bk w' b1 94 #[.int .i64 (qt.kd:Int),.int .i64 (qt.fr:Int),.int .i64 (qt.to:Int),.bool qt.op,.int .i64 qX.aw,.slice Av qX.pd.length cv,.bool qX.bd]∧Bk w' b2 85 #[.int .i64 qY.aw,.slice Au qY.pd.length cu,.bool qY.bd]:=⟨_,rfl⟩
    refine gm (S:=S0) hmix (by decide +kernel) (by rintro ⟨a,w,h⟩;exact h) ?_;have hS1:S0 W.drew:=by rw[hS0];exact⟨hbd,k1,k2⟩
    have t1:∀w',S0 w'→w'.cell? ⟨w.heap.size+1,0,none⟩=some (.pointer (some ⟨w.heap.size,0,none⟩)):=fun w' h=>by rw[hS0] at h;exact Boxed.cell h.1
    have t2:∀w',S0 w'→_:=fun w' h=>Bk.seven (by rw[hS0] at h;exact h.2.1)
    have t3:∀w',S0 w'→_:=fun w' h=>Bk.three (by rw[hS0] at h;exact h.2.2)
    refine tk 0 (.pointer (some ⟨w.heap.size,0,none⟩)) hS1 (fun w' hS=>?_) ?_
    ·have c:=t1 w' hS;go_simp
    refine tk 1 (.pointer (some ⟨w.heap.size,0,none⟩)) hS1 (fun w' hS=>?_) ?_
    ·have c:=t1 w' hS;go_simp
    refine tk 2 (.pointer (some ⟨w.heap.size,0,none⟩)) hS1 (fun w' hS=>?_) ?_
    ·have c:=t1 w' hS;go_simp
    refine tk 3 (.pointer (some ⟨w.heap.size,0,none⟩)) hS1 (fun w' hS=>?_) ?_
    ·go_simp
    refine tk 4 (.pointer (some ⟨w.heap.size,1,none⟩)) hS1 (fun w' hS=>?_) ?_
    ·go_simp
    refine tk 6 (.agg #[.int .i64 (qt.kd:Int),.int .i64 (qt.fr:Int),.int .i64 (qt.to:Int),.bool qt.op,.int .i64 qX.aw,.slice Av qX.pd.length cv,.bool qX.bd]) hS1 (fun w' hS=>?_) ?_
    ·obtain⟨c0,c1,c2,c3,c4,c5,c6⟩:=t2 w' hS;go_simp
    refine tk 9 (.agg #[.int .i64 qY.aw,.slice Au qY.pd.length cu,.bool qY.bd]) hS1 (fun w' hS=>?_) ?_
    ·obtain⟨c0,c1,c2,_⟩:=t3 w' hS;go_simp
    have y1:W.cell? ⟨w.heap.size,1,none⟩=some lv:=by rw[hdoc.bk.cell];rfl
    have y2:W.drew.cell? ⟨w.heap.size,1,none⟩=some lv:=y1;have ne1:b1≠w.heap.size:=fun e=>by
      subst e;have h9:=(show W.heap[_]? = _ from k1).symm.trans hdoc.bk;injection h9 with h9
      injection h9 with _ h9
      exact absurd h9 (by decide)
    have ne2:b2≠w.heap.size:=fun e=>by
      subst e;have h9:=(show W.heap[_]? = _ from k2).symm.trans hdoc.bk;injection h9 with h9
      injection h9 with _ h9
      exact absurd h9 (by decide)
    have hSet:∀w' i v,S0 w'→S0 (w'.setCell ⟨w.heap.size,i,none⟩ v):=fun w' i v h=>by
      rw[hS0] at h ⊢;exact⟨h.1.far (p:=⟨w.heap.size,i,none⟩) (by simp) v,h.2.1.far (p:=⟨w.heap.size,i,none⟩) ne1 v,h.2.2.far (p:=⟨w.heap.size,i,none⟩) ne2 v⟩
    obtain⟨Wa,hWa⟩:∃Wa,Wa=(W.alloc (.cells #[.int .i64 (qt.kd:Int),.int .i64 (qt.fr:Int),.int .i64 (qt.to:Int),.bool qt.op,.int .i64 qX.aw,.slice Av qX.pd.length cv,.bool qX.bd] 94)).drew:=⟨_,rfl⟩;have hSa:S0 (W.alloc (.cells #[.int .i64 (qt.kd:Int),.int .i64 (qt.fr:Int),.int .i64 (qt.to:Int),.bool qt.op,.int .i64 qX.aw,.slice Av qX.pd.length cv,.bool qX.bd] 94)).drew:=by rw[hS0];exact⟨Bk.alloc hbd _,Bk.alloc k1 _,Bk.alloc k2 _⟩
    have y3:(W.alloc (.cells #[.int .i64 (qt.kd:Int),.int .i64 (qt.fr:Int),.int .i64 (qt.to:Int),.bool qt.op,.int .i64 qX.aw,.slice Av qX.pd.length cv,.bool qX.bd] 94)).drew.cell? ⟨w.heap.size,1,none⟩=some lv:=iy y1;have rowa:(W.alloc (.cells #[.int .i64 (qt.kd:Int),.int .i64 (qt.fr:Int),.int .i64 (qt.to:Int),.bool qt.op,.int .i64 qX.aw,.slice Av qX.pd.length cv,.bool qX.bd] 94)).drew.ownsRow W0.heap.size 94 7 lv pre.length (iB pre):=hrow.alloc _;have rda:Rd (W.alloc (.cells #[.int .i64 (qt.kd:Int),.int .i64 (qt.fr:Int),.int .i64 (qt.to:Int),.bool qt.op,.int .i64 qX.aw,.slice Av qX.pd.length cv,.bool qX.bd] 94)).drew (W.heap.size+1) 7 (.slice (some ⟨W.heap.size,0,none⟩) 1 1) 1 (iB [⟨qt,qX,.slice Av qX.pd.length cv,qY,.slice Au qY.pd.length cu⟩]):=iK W (iB [⟨qt,qX,.slice Av qX.pd.length cv,qY,.slice Au qY.pd.length cu⟩]) 94 7 1 rfl (by omega);have one1:∀u∈iB [⟨qt,qX,.slice Av qX.pd.length cv,qY,.slice Au qY.pd.length cu⟩],u.oneCell'=true:=sM (fun q hq=>by rw[dw.1 hq];exact⟨_,_,_,rfl⟩);have HX:=ac (ae hbd (ae k1 (ae k2 (ae hdoc (ae hrow (ae hr1 (ae hr2 (ae hS0 (ae rowa (ae rda (ae one1 (ae hv2 (ae ne1 ne2)))))))))))));have HN:=ac (ae hnx (ae hSt (ae hB (ae hN hxb))));clear hbd k1 k2 hdoc hrow hr1 hr2 hS0 t1 t2 t3 hnx hSt hB hN hxb rowa rda one1 hv1 hv2 hWa Wa;refine wpAnyH_all (rs:=[5,7]) (by decide +kernel) (by simp) (eR rfl (by rfl) (fun K hK=>?_) (eR rfl (by rfl) (fun K hK=>?_) (fj (S:=S0))))
    repeat' (first
      | (revert hK
         intro hK;go_simp;refine hK _ _ ?_ ?_
         ·first|assumption|(iterate 4 (refine hSet _ _ _ ?_))<;>assumption|(refine hSet _ _ _ ?_;assumption)
         clear hK K)
      | (refine wpAnyH_all (rs:=[8]) (by decide +kernel) (by simp) (eR rfl (by rfl) (fun K hK=>?_) (fj (S:=S0)));refine iF (.tmp 23) (.tmp 25) 82 rfl W0.heap.size 94 i0 _ 7 72 Tryz.underlying82 hi hz0 hz1 hz2 rfl (by decide) lv pre.length (iB pre) rfl HX.out.2.2.2.2.2.2.2.2.1 (.slice (some ⟨W.heap.size,0,none⟩) 1 1) 1 (W.heap.size+1) _ rfl HX.out.2.2.2.2.2.2.2.2.2.1 HX.out.2.2.2.2.2.2.2.2.2.2.1 (by unfold maxLen;omega) (by omega) (by simp;have:=HN.out.2.2.2.1;omega) ?_;intro v3 w3 hown3 hg3 hv3;have kD3:Bk w3 w.heap.size 87 #[.string ⟨l.toArray⟩,lv,.int .i64 (mq mZ pre).aw,pv,.bool (mq mZ pre).bd]:=Bk.overrow (Bk.drew (Bk.alloc HX.out.2.2.2.1.bk _)) HX.out.2.2.2.2.2.2.2.2.1 hg3 (by decide);obtain⟨d1,d2,d3,d4,d5,d6,d7,d8⟩:=Bk.five kD3;have hS3:S0 w3:=by
           rw[HX.out.2.2.2.2.2.2.2.1];exact⟨Bk.overrow (Bk.drew (Bk.alloc HX.out.1 _)) HX.out.2.2.2.2.2.2.2.2.1 hg3 (by decide),(Bk.drew (Bk.alloc HX.out.2.1 _)).grown hg3 (fun e=>HX.out.2.2.2.2.2.2.2.2.2.2.2.1 e.symm),Bk.overrow (Bk.drew (Bk.alloc HX.out.2.2.1 _)) HX.out.2.2.2.2.2.2.2.2.1 hg3 (by decide)⟩
         obtain⟨A3,n3,c3,rfl⟩:=eA hown3;have H3:=ac (ae hown3 (ae hg3 hv3));clear hown3 hg3 hv3 kD3;refine hK _ _ hS3 ?_;clear hK K)
      | refine wpAnyH_all (rs:=[7]) (by decide +kernel) (by simp) (eR rfl (by rfl) (fun K hK=>?_) (fj (S:=S0)))
      | refine wpAnyH_all (rs:=[5]) (by decide +kernel) (by simp) (eR rfl (by rfl) (fun K hK=>?_) (fj (S:=S0)))
      | refine wpAnyH_all (rs:=[10]) (by decide +kernel) (by simp) (eR rfl (by rfl) (fun K hK=>?_) (fj (S:=S0)))
      | refine wpAnyH_all (rs:=[11]) (by decide +kernel) (by simp) (eR rfl (by rfl) (fun K hK=>?_) (fj (S:=S0)))
      | refine wpAnyH_all (rs:=[12]) (by decide +kernel) (by simp) (eR rfl (by rfl) (fun K hK=>?_) (fj (S:=S0)))
      | refine wpAnyH_all (rs:=[13]) (by decide +kernel) (by simp) (eR rfl (by rfl) (fun K hK=>?_) (fj (S:=S0)))
      | refine wpAnyH_all (rs:=[14]) (by decide +kernel) (by simp) (eR rfl (by rfl) (fun K hK=>?_) (fj (S:=S0)))
      | refine wpAnyH_all (rs:=[15]) (by decide +kernel) (by simp) (eR rfl (by rfl) (fun K hK=>?_) (fj (S:=S0)))
      | (refine wpAnyH_done (by decide +kernel) ?_ _;(obtain⟨o1,o2,o3⟩:=H3.out;exact Mr (q:=⟨qt,qX,.slice Av qX.pd.length cv,qY,.slice Au qY.pd.length cu⟩) (au _) (by omega) HX.out.2.2.2.1 HX.out.2.2.2.2.1 HN.out.1 HX.out.1 hXg hXd HN.out.2.2.1 HN.out.2.2.2.1 HN.out.2.2.2.2 HX.out.2.2.2.2.2.1 HX.out.2.2.2.2.2.2.1 (by omega) o2 o1 o3 _ rfl))
      | fail)
  case done=>
    rintro D X ys W hD hys ⟨⟨lv,pv,hdoc,hrow,hnx⟩,hbd,hXg,hXd,hB,hN,hxb⟩ hK;obtain⟨e1,e2⟩:=xw hys;have hc:W.cell? ⟨w.heap.size+1,0,none⟩=some (.pointer (some ⟨w.heap.size,0,none⟩)):=by rw[hbd.cell];rfl
    have HZ:=ac (ae hdoc (ae hrow (ae hB (ae hK (ae e1 e2)))));clear hdoc hrow hB hK e1 e2 hys hbd hxb;gi_wp2_with fail;obtain⟨h1,h2,h3,h4,h5,h6⟩:=HZ.out;refine⟨by simp,.inl ⟨_,_,rfl,run_takeDeferred h4,?_⟩⟩;have hbk:=belowK_b (w:=w) (au _) W D (.deferred (some [])) (.deferred none) (by omega) h4 rfl rfl;have hg:=grownBy_putObj' W D (.deferred none);have hne:∀k,some D=some k→∃o,W.heap[k]? = some o∧o.isCells=false:=fun k hk=>by injection hk with hk;subst hk;exact⟨_,h4,rfl⟩
    refine⟨.tuple #[.pointer (some ⟨w.heap.size,0,none⟩),.int .i64 0],by simp[results,Tryz.results30,go_sem],⟨w.heap.size,rfl,au _,⟨ys,lv,pv,h5,?_,?_⟩,h3.trans hbk⟩⟩
    ·rw[show (jf l).2=mq mZ ys from h6.symm];exact⟨(World.putObj_heap_other (by omega)).trans h1.bk,fun q hq=>(h1.ps q hq).grownX hg hne,h1.pv.grownX hg hne⟩
    ·exact Rt.of_own (h2.kept hg (.inr (fun e=>by have:=gJ h2 e h4;cases this)))
  case stop=>
    intro D c X pre W _ _ h _;exact h.elim
end
end
abbrev Fx:=List (Nat×TypeId×Array Value)
structure uG (w:World) (N:Nat) (fx:Fx) (b1 b2 b3:Nat) (X:Nat→Prop) (zs:List PV) (Y:Lx) (tl:Int) (W:World):Prop where
  ex:∃lv pv,W.ownsRow w.heap.size 94 7 lv zs.length (iB zs)∧(∀k,lv.ownBlock=some k→¬X k)∧Bk W b1 82 #[lv]∧Bk W b2 85 #[.int .i64 Y.aw,pv,.bool Y.bd]∧Rt W 120 2 pv Y.pd.length (fQ Y.pd)
  ps:∀q∈zs,Rt W 120 2 q.v q.X.pd.length (fQ q.X.pd)
  tl:Bk W b3 3 #[.int .i64 tl]
  fx:∀f∈fx,Bk W f.1 f.2.1 f.2.2∧¬X f.1
  nx:¬X b1∧¬X b2∧¬X b3
  hb:Below w.heap.size w W
  hN:N≤W.heap.size
  xb:∀k,X k→w.heap.size≤k∧k<W.heap.size
theorem uG.fits {fx:Fx} (h:uG w N fx b1 b2 b3 X zs Y tl A) (hx:XG X A B) (hk:KC zi A B):uG w N fx b1 b2 b3 (jH X A B) zs Y tl B:=by
  obtain⟨⟨lv,pv,e1,e2,e3,e4,e5⟩,h2,h3,h4,⟨n1,n2,n3⟩,h6,h7,h8⟩:=h;have hsz:=hx.size;have nn:∀{g t cs},Bk A g t cs→¬X g→¬jH X A B g:=fun hb hn=>by
    rintro (hk3|hk3)
    ·exact hn hk3
    ·have:=hb.lt;omega
  refine⟨⟨lv,pv,E6 e1 hx e2,fun k hk2=>?_,(qR e3 hx n1).trans e3,(qR e4 hx n2).trans e4,e5.kc hk (by decide)⟩,fun q hq=>(h2 q hq).kc hk (by decide),(qR h3 hx n3).trans h3,fun f hf=>⟨(qR (h4 f hf).1 hx (h4 f hf).2).trans (h4 f hf).1,nn (h4 f hf).1 (h4 f hf).2⟩,⟨nn e3 n1,nn e4 n2,nn h3 n3⟩,
    ⟨hx.os.trans h6.1,hx.tape.trans h6.2,hx.output.trans h6.3,aA h6.size hx.size,fun k hk=>?_⟩,aA h7 hsz,fun k hk=>?_⟩
  ·rintro (hk3|hk3)
   ·exact e2 k hk2 hk3
   ·have:=(e1.lt k hk2).2;omega
  ·exact(hx.block k (by have:=h6.size;omega) (fun h=>by have:=(h8 k h).1;omega)).trans (h6.block k hk)
  ·rcases hk with hk|hk
   ·have:=h8 k hk;omega
   ·have:=h6.size;omega
theorem uG.grown {fx:Fx} (h:uG w N fx b1 b2 b3 X zs Y tl W) (hg:W.grownBy W' row) (hr:∀k,row=some k→w.heap.size≤k∧∃o,W.heap[k]? = some o∧o.isCells=false):uG w N fx b1 b2 b3 X zs Y tl W':=by
  obtain⟨⟨lv,pv,e1,e2,e3,e4,e5⟩,h2,h3,h4,h5,h6,h7,h8⟩:=h;have hne:∀{b t cs},Bk W b t cs→some b≠row:=fun hk e=>by
    obtain⟨_,o,ho,hc⟩:=hr _ e.symm;rw[show W.heap[_]? = _ from hk] at ho
    cases ho
    cases hc
  have hR:∀k,row=some k→∃o,W.heap[k]? = some o∧o.isCells=false:=fun k hk=>(hr k hk).2
  have hrow:W'.ownsRow w.heap.size 94 7 lv zs.length (iB zs):=by
    cases row with
    | none=>
      by_cases e:lv.ownBlock=none
      ·exact e1.kept hg (.inl e)
      ·exact e1.kept hg (.inr e)
    | some k=>
      refine e1.kept hg (.inr (fun e=>?_));obtain⟨_,o,ho,hc⟩:=hr k rfl;rw[gJ e1 e ho] at hc
      cases hc
  exact⟨⟨lv,pv,hrow,e2,e3.grown hg (hne e3),e4.grown hg (hne e4),e5.grownX hg hR⟩,fun q hq=>(h2 q hq).grownX hg hR,h3.grown hg (hne h3),fun f hf=>⟨(h4 f hf).1.grown hg (hne (h4 f hf).1),(h4 f hf).2⟩,h5,
    h6.grown hg h6.size (fun k hk=>(hr k hk).1),aA h7 hg.size,fun k hk=>⟨(h8 k hk).1,bQ (h8 k hk).2 hg.size⟩⟩
theorem uG.below {fx:Fx} (h:uG w N fx b1 b2 b3 X zs Y tl W) (hb:Below W.heap.size W W'):uG w N fx b1 b2 b3 X zs Y tl W':=by
  obtain⟨⟨lv,pv,e1,e2,e3,e4,e5⟩,h2,h3,h4,h5,h6,h7,h8⟩:=h
  exact⟨⟨lv,pv,eC e1 hb,e2,e3.below hb e3.lt,e4.below hb e4.lt,e5.next hb⟩,fun q hq=>(h2 q hq).next hb,h3.below hb h3.lt,fun f hf=>⟨(h4 f hf).1.below hb (h4 f hf).1.lt,(h4 f hf).2⟩,h5,
    h6.trans (hb.mono h6.size),aA h7 hb.size,fun k hk=>⟨(h8 k hk).1,bQ (h8 k hk).2 hb.size⟩⟩
theorem B7 {fx:Fx} (hb1:Below W.heap.size W W1) (hfx:∀f∈fx,f.1≠b1∧f.1≠b2∧f.2.1≠94) (hw1:w.heap.size≤b1) (hw2:w.heap.size≤b2) (hN1:b1<N) (hN2:b2<N) (hI:uG w N fx b1 b2 b3 X zs Y tl W) (hl:Bk W b1 82 #[lv]) (hq:∀q∈ys,Rt W 120 2 q.v q.X.pd.length (fQ q.X.pd)) (hy:Rt W 120 2 u Y'.pd.length (fQ Y'.pd)) (hg:W1.grownBy w3 lv.ownBlock) (hown:w3.ownsRow w.heap.size 94 7 v3 (zs.length+ys.length) (iB zs++iB ys)) (hv3:v3.ownBlock=lv.ownBlock∨v3.ownBlock=some W1.heap.size) :
    ∀W5,W5=((((w3.setCell ⟨b1,0,none⟩ v3).setCell ⟨b2,0,none⟩ (.int .i64 Y'.aw)).setCell ⟨b2,1,none⟩ u).setCell ⟨b2,2,none⟩ (.bool Y'.bd)) →
     KeepsFrom N W W5∧KC uC W W5∧(∀k,X k→W5.heap[k]? = W.heap[k]?)∧uG w N fx b1 b2 b3 X (zs++ys) Y' tl W5:=by
  obtain⟨⟨lv',pv,e1,e2,e3,e4,e5⟩,h2,h3,h4,⟨n1,n2,n3⟩,h6,h7,h8⟩:=hI;obtain rfl:lv=lv':=by
    have:=hl.symm.trans e3
    injection this with this
    injection this with this _ _
    simpa using this
  have hrow1:W1.ownsRow w.heap.size 94 7 lv zs.length (iB zs):=eC e1 hb1;have hs1:=hb1.size;have hkc:KC uC W w3:=(KC.of_below hb1).grown hg (fun k hk=>by
    obtain⟨cs,t,fr,q1,q2⟩:=jR hrow1 k hk;exact⟨cs,t,fr,q1,by rw[q2];decide⟩)
  have c1:Bk w3 b1 82 _:=Bk.overrow (e3.below hb1 e3.lt) hrow1 hg (by decide);have c2:Bk w3 b2 85 _:=Bk.overrow (e4.below hb1 e4.lt) hrow1 hg (by decide);have c3:Bk w3 b3 3 _:=Bk.overrow (h3.below hb1 h3.lt) hrow1 hg (by decide);have cf:∀f∈fx,Bk w3 f.1 f.2.1 f.2.2:=fun f hf=>Bk.overrow ((h4 f hf).1.below hb1 (h4 f hf).1.lt) hrow1 hg (Ne.symm (hfx f hf).2.2)
  have n12:b1≠b2:=i5 e3 e4 (by decide);have n31:b3≠b1:=i5 h3 e3 (by decide);have n32:b3≠b2:=i5 h3 e4 (by decide);have hbel3:Below w.heap.size w w3:=dV (h6.trans (hb1.mono h6.size)) hg (aA h6.size hs1) (fun k hk=>(hrow1.lt k hk).1);rintro W5 rfl;have hgs1:=eJ (fA w3 (some b1)) 0 v3;have kc1:=hkc.set c1 (by decide) 0 v3;have m1:=c1.set 0 v3;have m2:=c2.far (p:=⟨b1,0,none⟩) n12.symm v3;have m3:=c3.far (p:=⟨b1,0,none⟩) n31 v3;have mf:∀f∈fx,Bk (w3.setCell ⟨b1,0,none⟩ v3) f.1 f.2.1 f.2.2:=fun f hf=>(cf f hf).far (p:=⟨b1,0,none⟩) (hfx f hf).1 v3
  have mb:=hbel3.setCell (p:=⟨b1,0,none⟩) hw1 v3;have mo:=fh (p:=⟨b1,0,none⟩) hown (eP hown c1 (by decide)) v3;have same1:∀k,k<w3.heap.size→k≠b1→(w3.setCell ⟨b1,0,none⟩ v3).heap[k]? = w3.heap[k]? := fun k hk hne=>hgs1.block k hk (fun e=>hne (by injection e))
  have sz1:(w3.setCell ⟨b1,0,none⟩ v3).heap.size=w3.heap.size:=by simp
  generalize w3.setCell ⟨b1,0,none⟩ v3=w4 at hgs1 kc1 m1 m2 m3 mf mb mo same1 sz1 ⊢;have hgs2:=eJ (eJ (eJ (fA w4 (some b2)) 0 (.int .i64 Y'.aw)) 1 u) 2 (.bool Y'.bd);have kc5:=((kc1.set m2 (by decide) 0 (.int .i64 Y'.aw)).set (m2.set 0 (.int .i64 Y'.aw)) (by decide) 1 u).set ((m2.set 0 (.int .i64 Y'.aw)).set 1 u) (by decide) 2 (.bool Y'.bd);have r2:=((m2.set 0 (.int .i64 Y'.aw)).set 1 u).set 2 (.bool Y'.bd);have gf:∀{b t cs},Bk w4 b t cs→b≠b2→Bk (((w4.setCell ⟨b2,0,none⟩ (.int .i64 Y'.aw)).setCell ⟨b2,1,none⟩ u).setCell ⟨b2,2,none⟩ (.bool Y'.bd)) b t cs:=fun h hne=>h.grown hgs2 (fun e=>hne (by injection e))
  have r1:=gf m1 n12;have r3:=gf m3 n32;have rf:∀f∈fx,Bk _ f.1 f.2.1 f.2.2:=fun f hf=>gf (mf f hf) (hfx f hf).2.1
  have rb:=mb.grown hgs2 mb.size (fun k hk=>by injection hk with hk;omega);have ro:=mo.kept hgs2 (.inr (fun e=>eP mo m2 (by decide) e));generalize ((w4.setCell ⟨b2,0,none⟩ (.int .i64 Y'.aw)).setCell ⟨b2,1,none⟩ u).setCell ⟨b2,2,none⟩ (.bool Y'.bd)=W5 at hgs2 kc5 r1 r2 r3 rf rb ro ⊢;have same:∀k,k<w3.heap.size→k≠b1→k≠b2→W5.heap[k]? = w3.heap[k]? := fun k hk hne1 hne2=>(hgs2.block k (by omega) (fun e=>hne2 (by injection e))).trans (same1 k hk hne1)
  have s3:W1.heap.size≤w3.heap.size:=hg.size;have s5:=hgs2.size;have hX:∀k,X k→W5.heap[k]? = W.heap[k]? := fun k hk=>by
    have h1:=(h8 k hk).2;rw[same k (by omega) (fun e=>n1 (e▸hk)) (fun e=>n2 (e▸hk)),hg.block k (by omega) (fun e=>e2 k e.symm hk)];exact hb1.block k h1
  refine⟨⟨by omega,fun k o h1 h2 h3=>?_⟩,kc5,hX,⟨v3,u,by rw[lJ,aD];exact ro,fun k hk hX2=>?_,r1,r2,hy.kc kc5 (by decide)⟩,fun r hr=>?_,r3,fun f hf=>⟨rf f hf,(h4 f hf).2⟩,⟨n1,n2,n3⟩,rb,by omega,fun k hk=>⟨(h8 k hk).1,by have:=(h8 k hk).2;omega⟩⟩
  ·have hk1:=(aJ.1 h2).1;rw[same k (by omega) (by omega) (by omega),hg.block k (by omega) (fun e=>by
     obtain⟨cs,t,fr,q1,q2⟩:=jR hrow1 k e.symm;rw[hb1.block k hk1,h2] at q1;injection q1 with q1
     rw[q1] at h3
     cases h3)]
   exact(hb1.block k hk1).trans h2
  ·rcases hv3 with hv3|hv3
   ·exact e2 k (hv3.symm.trans hk) hX2
   ·rw[hv3] at hk;injection hk with hk
    have:=(h8 k hX2).2
    omega
  ·rcases bM.1 hr with hr|hr
   ·exact(h2 r hr).kc kc5 (by decide)
   ·exact(hq r hr).kc kc5 (by decide)
theorem Mu {fx:Fx} (hfx:∀f∈fx,f.1≠b1∧f.1≠b2∧f.2.1≠94) (hw1:w.heap.size≤b1) (hw2:w.heap.size≤b2) (hN1:b1<N) (hN2:b2<N) (hI:uG w N fx b1 b2 b3 X zs Y tl W) (hl:Bk W b1 82 #[lv]) (hq:Rt W 120 2 q.v q.X.pd.length (fQ q.X.pd)) (hy:Rt W 120 2 q.u q.Y.pd.length (fQ q.Y.pd)) (hg:(W.alloc (.cells (iB [q]).toArray 94)).drew.grownBy w3 lv.ownBlock) (hown:w3.ownsRow w.heap.size 94 7 v3 (zs.length+1) (iB zs++iB [q])) (hv3:v3.ownBlock=lv.ownBlock∨v3.ownBlock=some (W.alloc (.cells (iB [q]).toArray 94)).drew.heap.size) :
    ∀W5,W5=((((w3.setCell ⟨b1,0,none⟩ v3).setCell ⟨b2,0,none⟩ (.int .i64 q.Y.aw)).setCell ⟨b2,1,none⟩ q.u).setCell ⟨b2,2,none⟩ (.bool q.Y.bd)) →
     KeepsFrom N W W5∧KC uC W W5∧(∀k,X k→W5.heap[k]? = W.heap[k]?)∧uG w N fx b1 b2 b3 X (zs++[q]) q.Y tl W5:=
  B7 ((ay _ W).alloc (au _) _).drew hfx hw1 hw2 hN1 hN2 hI hl (fun r hr=>by rw[dw.1 hr];exact hq) hy hg hown hv3
theorem Mq {fx:Fx} (hfx:∀f∈fx,f.1≠b3) (hw3:w.heap.size≤b3) (hN3:b3<N) (hI:uG w N fx b1 b2 b3 X zs Y tl W) :
    ∀W5,W5=W.setCell ⟨b3,0,none⟩ (.int .i64 n)→KeepsFrom N W W5∧KC uC W W5∧(∀k,X k→W5.heap[k]? = W.heap[k]?)∧uG w N fx b1 b2 b3 X zs Y n W5:=by
  obtain⟨⟨lv,pv,e1,e2,e3,e4,e5⟩,h2,h3,h4,⟨n1,n2,n3⟩,h6,h7,h8⟩:=hI;have n31:b3≠b1:=i5 h3 e3 (by decide);have n32:b3≠b2:=i5 h3 e4 (by decide);have hgs:=eJ (fA W (some b3)) 0 (.int .i64 n);rintro W5 rfl;have kc:=(KC.refl uC W).set h3 (by decide) 0 (.int .i64 n)
  refine⟨⟨hgs.size,fun k o h1 h2 h3=>(hgs.block k (aJ.1 h2).1 (fun e=>by injection e with e;omega)).trans h2⟩,kc,fun k hk=>hgs.block k (h8 k hk).2 (fun e=>by injection e with e;exact n3 (e▸hk)),⟨lv,pv,fh (p:=⟨b3,0,none⟩) e1 (eP e1 h3 (by decide)) _,e2,e3.far (p:=⟨b3,0,none⟩) n31.symm _,e4.far (p:=⟨b3,0,none⟩) n32.symm _,e5.kc kc (by decide)⟩,
    fun q hq=>(h2 q hq).kc kc (by decide),h3.set 0 _,fun f hf=>⟨(h4 f hf).1.far (p:=⟨b3,0,none⟩) (hfx f hf) _,(h4 f hf).2⟩,⟨n1,n2,n3⟩,h6.setCell (p:=⟨b3,0,none⟩) hw3 _,aA h7 hgs.size,fun k hk=>⟨(h8 k hk).1,bQ (h8 k hk).2 hgs.size⟩⟩
theorem MO {x0:Nat} (hK:K=uv ed.old ed.a.length) (hR:(x0,Z0)=vR ed.old K) (hSt:AX ed.new x0 Z0 (pre++[q])):(gI ed.new)[K+pre.length]? = some (q.t,q.X):=by
  have h1:=ed.head.1;rw[←hK,←hR] at h1;have hl:((gI ed.old).take K).length=K:=by rw[bz];have:=tO ed.old ed.a.length;omega
  rw[h1,aP (by omega),hl,show K+pre.length-K=pre.length by omega];obtain⟨r,hr⟩:=hSt;have h2:=congrArg (List.map Prod.fst) hr;rw[vH] at h2;rw[←h2,bG];simp[CQ]
theorem Hs (hpr:jM xs=gI ed.old) (hq:(gI ed.new)[j]? = some (q.t,q.X)) (h:Mt ed i j):∃r,xs[i]? = some r∧ed.a.length+ed.d.length≤r.t.fr∧q.t.fr=r.t.fr-ed.d.length+ed.i.length∧r.X=q.X:=by
  obtain⟨p,q',h1,h2,h3,h4,h5⟩:=h.w;rw[hq] at h2;injection h2 with h2
  subst h2;rw[←hpr] at h1;obtain⟨r,hr,h6⟩:∃r,xs[i]? = some r∧(r.t,r.X)=p:=by simpa [jM] using h1
  subst h6;exact⟨r,hr,h3,h4,h5⟩
theorem MN (hpr:jM xs=gI ed.old) (hq:(gI ed.new)[j]? = some (q.t,q.X)) (hr:xs[k]? = some r) (h1:ed.a.length+ed.i.length≤q.t.fr) (h2:(r.t.fr:Int)=(q.t.fr:Int)-((ed.i.length:Int)-(ed.d.length:Int))) (h3:r.X=q.X):Mt ed k j:=
  ⟨(r.t,r.X),(q.t,q.X),by rw[←hpr];simp[jM,hr],hq,by show _≤r.t.fr;omega,by show q.t.fr=r.t.fr-_+_;omega,h3⟩
theorem NW (hpr:jM xs=gI ed.old) (hq:(gI ed.new)[j]? = some (q.t,q.X)) (hr:xs[k]? = some r) (h2:(r.t.fr:Int)=(q.t.fr:Int)-((ed.i.length:Int)-(ed.d.length:Int))) (h3:r.X≠q.X):∀i,¬Mt ed i j:=by
  intro i h;obtain⟨r',g1,g2,g3,g4⟩:=Hs hpr hq h;have e1:(gI ed.old)[i]? = some (r'.t,r'.X):=by rw[←hpr];simp[jM,g1]
  have e2:(gI ed.old)[k]? = some (r.t,r.X):=by rw[←hpr];simp[jM,hr]
  have hik:=Jd e1 e2 (by show r'.t.fr=r.t.fr;omega);subst hik;rw[g1] at hr;injection hr with hr
  exact h3 (hr▸g4)
theorem BE {w:World} (hb:Below W.heap.size W W') (hX:∀k,X k→k<W.heap.size) (h:KeepsFrom N W' W5∧KC T W' W5∧(∀k,X k→W5.heap[k]? = W'.heap[k]?)∧P) :
    KeepsFrom N W W5∧KC T W W5∧(∀k,X k→W5.heap[k]? = W.heap[k]?)∧P:=
  ⟨(ig hb).trans h.1,(KC.of_below hb).trans h.2.1,fun k hk=>(h.2.2.1 k hk).trans (hb.block k (hX k hk)),h.2.2.2⟩
end Go.Proofs.YtmclohkaiemnaaaGreatDoor
