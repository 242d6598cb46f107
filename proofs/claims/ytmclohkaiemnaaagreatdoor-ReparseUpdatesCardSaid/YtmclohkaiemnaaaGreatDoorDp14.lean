/- Chapter 10: what its laws share: edits in memory, short, right, awake, and Apply of any edit. -/
import Derived.Test.YtmclohkaiemnaaaGreatDoorAp2
import Derived.Test.YtmclohkaiemnaaaGreatDoorUt14
import Derived.Test.YtmclohkaiemnaaaGreatDoorQb13
import Derived.Test.YtmclohkaiemnaaaGreatDoorSm9
import Derived.Test.YtmclohkaiemnaaaGreatDoorEc9
import Derived.Deep.DeepCutAuto
import Derived.Deep.CutBlock
import Derived.Deep.RegionHeld3
set_option linter.unusedVariables false
set_option linter.unusedSimpArgs false
set_option maxRecDepth 100000
set_option maxHeartbeats 8000000
namespace Go.Proofs.YtmclohkaiemnaaaGreatDoor
open Go.RowKit
theorem xW (l:List UInt8):∀x X,(nL l x X).1=(ic l x X).map Prod.fst:=
  pU l (fun x X h=>by rw[jC,gT,aC h,aC h];rfl) (fun x X h ih=>by rw[jC,gT,aB h,aB h];simp[ih])
structure Ez where
  a:Int
  d:List UInt8
  i:List UInt8
  ha : -9223372036854775808≤a∧a≤9223372036854775807
theorem rU.next {w w':World} {g:Nat} {l:List UInt8} (h:rU w g l) (hb:Below w.heap.size w w'):rU w' g l:=by
  obtain⟨xs,lv,pv,h1,h2,h3⟩:=h;exact⟨xs,lv,pv,h1,h2.below hb,h3.next hb⟩
section
open Go.RowKit Go.ChangeShapes Go.WideShapes Go.Deep
end
theorem Iq {l:List UInt8} {xs:List PV} (hpr:jM xs=gI l):zq xs=(jf l).1:=by
  have h1:=xW l 0 mZ;have h2:=congrArg (List.map Prod.fst) hpr;rw[show (jf l).1=(nL l 0 mZ).1 from rfl,h1,←h2];simp[zq,jM]
theorem Ft (e:Ed):yh e.old e.d (e.a.length:Int)=true∧C2 e.old e.d e.i (e.a.length:Int)=e.new:=by
  have h1:e.old.drop e.a.length=e.d++e.c:=by unfold Ed.old;rw[List.drop_left]
  refine⟨?_,?_⟩
  ·rw[Jr (by unfold Ed.old;simp only[aD];omega) (by unfold Ed.old;simp only[aD];omega),h1,List.take_left];simp
  ·unfold C2 Ed.new;rw[bJ,←dN,h1,List.drop_left];unfold Ed.old;rw[List.take_left]
end Go.Proofs.YtmclohkaiemnaaaGreatDoor
set_option linter.unusedVariables false
set_option linter.unusedSimpArgs false
set_option maxRecDepth 100000
set_option maxHeartbeats 8000000
namespace Go.Proofs.YtmclohkaiemnaaaGreatDoor
open Go.RowKit
variable {cs:Array Value} {l2:List UInt8} {xs:List Value} {g d b sz n B:Nat} {row:Option Nat} {e t:TypeId} {v u0 u1 fv tvv:Value} {w w' a c W W':World} (l:List UInt8) (ts:List Tz)
def gk (l:List UInt8):List Lf:=im l ((jf l).1.map tz)
theorem FE:∀x∈im l ts,x.tx.length≤l.length:=by
  intro x hx;obtain⟨t,_,ht⟩:=dL.1 hx;unfold se at ht;split at ht
  ·simp only[dw] at ht;subst ht;show (KE l t).length≤_;unfold KE;split
   ·unfold sub;rw[aZ,bz];omega
   ·exact bq _
  ·simp at ht
theorem vd:(jf l).1.length≤l.length:=by
  rw[show (jf l).1=(nL l 0 mZ).1 from rfl,xW l 0 mZ,bE];exact aA (sI l 0 mZ) (by omega)
theorem qj (hl:l.length≤900):FB (gk l):=by
  refine⟨?_,fun x hx=>aA (FE l _ x hx) (by omega)⟩;have h1:=nM l ((jf l).1.map tz);have h2:=vd l;rw[bE] at h1;exact aA h1 (by omega)
theorem vq (g:Nat) (l:List UInt8) (w:World) (hD:rU w g l) (hl:l.length≤900) :
    Calls Tryz.prog 31 #[.pointer (some ⟨g,0,none⟩)] w fun e w'=>∃v,e=.returned v∧w'.ownsRow w.heap.size 42 4 v (gk l).length (gv (gk l))∧Below w.heap.size w w':=by
  obtain⟨xs,lv,pv,hpr,hD,hr⟩:=hD;have h2:=vd l;have htk:=Iq hpr;have htl:(jf l).1.length=xs.length:=by rw[←htk];simp[zq]
  have h:=Az g l _ xs lv pv w hD hr (by omega) (by omega);rw[htk] at h;exact h
structure zx (w:World) (g d:Nat) (l:List UInt8):Prop where
  ex:∃fv tvv,Bk w g 66 #[.pointer (some ⟨d,0,none⟩),fv,tvv]∧Rt w 42 4 fv (gk l).length (gv (gk l))∧Rt w 52 4 tvv (ei (gk l)).l.length (fm (ei (gk l)).l)
  doc:rU w d l
theorem zx.next {l:List UInt8} (h:zx w g d l) (hb:Below w.heap.size w w'):zx w' g d l:=by
  obtain⟨fv,tvv,h1,h2,h3⟩:=h.ex;exact⟨⟨fv,tvv,h1.below hb h1.lt,h2.next hb,h3.next hb⟩,h.doc.next hb⟩
theorem zx.lt {l:List UInt8} (h:zx w g d l):g<w.heap.size∧d<w.heap.size∧g≠d:=by
  obtain⟨fv,tvv,h1,_⟩:=h.ex;obtain⟨_,_,_,_,k2,_⟩:=h.doc;exact⟨h1.lt,k2.bk.lt,i5 h1 k2.bk (by decide)⟩
theorem Ju (w:World) (hl:l.length≤900) :
    Calls Tryz.prog 10 #[.string ⟨l.toArray⟩] w fun e w'=>∃g d,e=.returned (.tuple #[.pointer (some ⟨g,0,none⟩),.int .i64 0])∧w.heap.size≤g∧w.heap.size≤d∧zx w' g d l∧Below w.heap.size w w':=by
  have hF:=qj l hl;have c1:=Jv l w hl;have c2:=fun g W (h:rU W g l)=>vq g l W h hl
  have c3:=fun fv W (hR:Rd W W.heap.size 4 fv (gk l).length (gv (gk l)))=>Jg (gk l) fv W hF hR
  obtain⟨F,hFe⟩:∃F,F=gk l:=⟨_,rfl⟩;rw[←hFe] at c2 c3;have HC:=ac (ae c1 (ae c2 (ae c3 hFe)));clear c1 c2 c3 hFe hF;go_enter Tryz.func10,Tryz.ntmps10
  go_wp2_with (first
    | (go_at_call 32;with_reducible refine(HC.out.2.2.1 _ _ (Rd.of_own H2.out.1)).mono ?_
       rintro e w3 ⟨tvv,rfl,ho,hb⟩;obtain⟨A3,n3,c3,rfl⟩:=eA ho;have H3:=ac (ae ho hb);clear ho hb)
    | (go_at_call 31;with_reducible refine(HC.out.2.1 _ _ H1.out.2.1).mono ?_
       rintro e w2 ⟨fv,rfl,ho,hb⟩;obtain⟨A2,n2,c2,rfl⟩:=eA ho;have H2:=ac (ae ho hb);clear ho hb)
    | (go_at_call 30;with_reducible refine HC.out.1.mono ?_
       rintro e w1 ⟨d,rfl,hd,hD,hb⟩;have H1:=ac (ae hd (ae hD hb));clear hd hD hb)
    | fail)
  go_ret2;have hb2:=H1.out.2.2.trans (H2.out.2.mono H1.out.2.2.size);have hb3:=hb2.trans (H3.out.2.mono hb2.size);have hbA:Below w3.heap.size w3 (w3.alloc (.cells #[.pointer (some ⟨d,0,none⟩),.slice A2 n2 c2,.slice A3 n3 c3] 66)):=(ay _ _).alloc (au _) _;have hF:=HC.out.2.2.2;refine⟨_,d,rfl,hb3.size,H1.out.1,⟨⟨_,_,Bk.new _ _ _,?_,?_⟩,((H1.out.2.1.next H2.out.2).next H3.out.2).next hbA⟩,hb3.trans (hbA.mono hb3.size)⟩
  ·rw[←hF];exact(Rt.of_own (eC H2.out.1 H3.out.2)).next hbA
  ·rw[←hF];exact(Rt.of_own H3.out.1).next hbA
theorem Ay (g d:Nat) (l:List UInt8) (w:World) (hD:zx w g d l) (hl:l.length≤900) :
    Calls Tryz.prog 12 #[.pointer (some ⟨g,0,none⟩)] w fun e w'=>∃v,e=.returned v∧w'.ownsRow w.heap.size 42 4 v (gk l).length (gv (gk l))∧Below w.heap.size w w':=by
  obtain⟨fv,tvv,h1,h2,h3⟩:=hD.ex;have hF:=(qj l hl).n;obtain⟨A,c,rfl⟩:=h2.form;have c1:=GY (gk l) A (gk l).length c w rfl h2.rd (by omega);have y1:w.cell? ⟨g,1,none⟩=some (.slice A (gk l).length c):=by rw[h1.cell];rfl
  have HC:=ac c1;clear c1 h1 h2 h3 hD hF;generalize gk l=F at *;go_enter Tryz.func12,Tryz.ntmps12;go_wp2_with (
    (go_at_call 34;with_reducible refine HC.out.mono ?_
     rintro e w2 ⟨v,rfl,ho,hb⟩;have H2:=ac (ae ho hb);clear ho hb))
  go_ret;exact⟨_,rfl,H2.out.1,H2.out.2⟩
abbrev jG (g d:Nat) (w w':World):Prop:=XG (fun k=>k=g∨k=d) w w'
theorem jG.of_below (h:Below w.heap.size w w'):jG g d w w':=XG.of_below h
theorem jG.trans {b:World} (h:jG g d a b) (k:jG g d b c):jG g d a c:=
  ⟨k.os.trans h.os,k.tape.trans h.tape,k.output.trans h.output,aA h.size k.size,fun j hj hx=>(k.block j (bQ hj h.size) hx).trans (h.block j hj hx)⟩
theorem jG.of_grown (h:w.grownBy w' row) (hr:∀k,row=some k→k=g∨k=d):jG g d w w':=
  ⟨h.1,h.2,h.3,h.size,fun j hj hx=>h.block j hj (fun e=>hx (hr j e.symm))⟩
theorem Rt.grow (h:Rt w e sz v n xs) (hb:Bk w b t cs) (hg:w.grownBy w' (some b)) (he:e≠t):Rt w' e sz v n xs:=
  h.keep hg (fun k hk=>by injection hk with hk;subst hk;exact⟨_,_,_,hb,he⟩)
theorem zx.fin {l:List UInt8} (hk:Bk w g 66 #[.pointer (some ⟨d,0,none⟩),u0,u1]) (hf:Rt w 42 4 fv (gk l).length (gv (gk l))) (ht:Rt w 52 4 tvv (ei (gk l)).l.length (fm (ei (gk l)).l)) (hd:rU w d l) :
    zx ((w.setCell ⟨g,1,none⟩ fv).setCell ⟨g,2,none⟩ tvv) g d l∧jG g d w ((w.setCell ⟨g,1,none⟩ fv).setCell ⟨g,2,none⟩ tvv):=by
  have hg:=eJ (eJ (fA w (some g)) 1 fv) 2 tvv;have hne:d≠g:=by
    obtain⟨_,_,_,_,k2,_⟩:=hd
    exact(i5 hk k2.bk (by decide)).symm
  obtain⟨xs,lv,pv,h1,h2,h3⟩:=hd;have hr:∀{e:TypeId},e≠66→∀k,some g=some k→∃t cs fr,w.heap[k]? = some (.cells cs t fr)∧e≠t:=fun he k hk2=>by injection hk2 with hk2;subst hk2;exact⟨_,_,_,hk,he⟩
  refine⟨⟨⟨fv,tvv,(hk.set 1 fv).set 2 tvv,hf.keep hg (hr (by decide)),ht.keep hg (hr (by decide))⟩,⟨xs,lv,pv,h1,⟨h2.bk.grown hg (fun e=>hne (by injection e)),fun q hq=>(h2.ps q hq).keep hg (hr (by decide)),h2.pv.keep hg (hr (by decide))⟩,h3.keep hg (hr (by decide))⟩⟩,jG.of_grown hg (fun k hk2=>by injection hk2 with hk2;exact .inl hk2.symm)⟩
structure zn (w:World) (g d:Nat) (l l2:List UInt8) (fv tvv:Value) (W:World):Prop where
  k:Bk W g 66 #[.pointer (some ⟨d,0,none⟩),fv,tvv]
  f:Rt W 42 4 fv (gk l).length (gv (gk l))
  t:Rt W 52 4 tvv (ei (gk l)).l.length (fm (ei (gk l)).l)
  doc:rU W d l2
  x:jG g d w W
theorem zn.below {l:List UInt8} (h:zn w g d l l2 fv tvv W) (hb:Below W.heap.size W W'):zn w g d l l2 fv tvv W':=
  ⟨h.k.below hb h.k.lt,h.f.next hb,h.t.next hb,h.doc.next hb,h.x.trans (jG.of_below hb)⟩
theorem zn.set {l:List UInt8} (h:zn w g d l l2 fv tvv W) (hb:Bk W b 68 cs) (hw:w.heap.size≤b) (i:Nat) (v:Value):zn w g d l l2 fv tvv (W.setCell ⟨b,i,none⟩ v):=by
  have hg:=eJ (fA W (some b)) i v;have hr:∀{e:TypeId},e≠68→∀k,some b=some k→∃t cs fr,W.heap[k]? = some (.cells cs t fr)∧e≠t:=fun he k hk2=>by injection hk2 with hk2;subst hk2;exact⟨_,_,_,hb,he⟩
  obtain⟨xs,lv,pv,h1,h2,h3⟩:=h.doc
  exact⟨h.k.grown hg (fun e=>i5 h.k hb (by decide) (by injection e)),h.f.keep hg (hr (by decide)),h.t.keep hg (hr (by decide)),
    ⟨xs,lv,pv,h1,⟨h2.bk.grown hg (fun e=>i5 h2.bk hb (by decide) (by injection e)),fun q hq=>(h2.ps q hq).keep hg (hr (by decide)),h2.pv.keep hg (hr (by decide))⟩,h3.keep hg (hr (by decide))⟩,XG.set h.x (.inr hw) i v⟩
theorem Ds (g d:Nat) (l l2:List UInt8) (x:Ez) (ok:Bool) (w:World) (hD:zx w g d l) (hl:l.length≤900) (hl2:l2.length≤900) (hno:ok=false→l2=l)
    (c1:∀W,rU W d l→Calls Tryz.prog 33 #[.pointer (some ⟨d,0,none⟩),.agg #[.int .i64 x.a,.string ⟨x.d.toArray⟩,.string ⟨x.i.toArray⟩]] W fun e w'=>∃h t:Int,e=.returned (.tuple #[.agg #[.int .i64 h,.int .i64 t],.int .i64 (if ok=true then 0 else 1)])∧rU w' d l2∧W.grownBy w' (some d)) :
    Calls Tryz.prog 11 #[.pointer (some ⟨g,0,none⟩),.agg #[.int .i64 x.a,.string ⟨x.d.toArray⟩,.string ⟨x.i.toArray⟩]] w fun e w'=>e=.returned (.tuple #[.int .i64 ((if ok=true then sf (gk l2) (gk l) else 0:Nat):Int),.int .i64 (if ok=true then 0 else 1)])∧zx w' g d l2∧jG g d w w':=by
  obtain⟨fv,tvv,h1,h2,h3⟩:=hD.ex;obtain⟨oA,oc,rfl⟩:=h2.form;obtain⟨lA,lcp,rfl⟩:=h3.form;obtain⟨hgl,hdl,hgd⟩:=hD.lt;have hG:=qj l hl;have hdoc:=hD.doc;have HD:=ac (ae h1 (ae h2 (ae h3 hdoc)));have HC:=ac (ae c1 (ae hno hG));clear c1 hno hG h1 h2 h3 hdoc hD;go_enter Tryz.func11,Tryz.ntmps11;go_upto_region 1 with fail
  refine li fun W0 hb0 k0 hs0=>?_
  have kgg:=HD.out.1.below hb0 hgl;have y0:W0.cell? ⟨g,0,none⟩=some (.pointer (some ⟨d,0,none⟩)):=by rw[kgg.cell];rfl
  obtain⟨q0,q1,q2,_⟩:=k0.three;have hne:w.heap.size≠d:=by omega
  have hne2:w.heap.size≠g:=by omega
  have H0:=ac (ae kgg (ae hb0 (ae k0 (ae (HD.out.2.2.2.next hb0) (ae (HD.out.2.1.next hb0) (HD.out.2.2.1.next hb0))))));obtain⟨z,hz⟩:∃z:Int,z=(if ok=true then 0 else 1):=⟨_,rfl⟩;have HZ:=ac hz;have c1:=HC.out.1;rw[←hz] at c1;have HC1:=ac c1;have hlt0:w.heap.size<W0.heap.size:=by omega
  have hne3:W0.heap.size≠d:=by omega
  have hne4:W0.heap.size≠g:=by omega
  clear kgg hb0 k0 hz c1 hs0;go_cut [7] (fun s wx=>s=.int .i64 z∧zn w g d l l2 (.slice oA (gk l).length oc) (.slice lA (ei (gk l)).l.length lcp) wx)
  case first=>
    go_region_held3 (fun w'=>w'.cell? ⟨g,0,none⟩=some (.pointer (some ⟨d,0,none⟩))∧w'.cell? ⟨w.heap.size,0,none⟩=some (.int .i64 x.a)∧w'.cell? ⟨w.heap.size,1,none⟩=some (.string ⟨x.d.toArray⟩)∧w'.cell? ⟨w.heap.size,2,none⟩=some (.string ⟨x.i.toArray⟩))
     (first
      | with_reducible exact⟨y0,q0,q1,q2⟩
      | (try dsimp only
         repeat' (first
           | with_reducible assumption
           | with_reducible apply ae
           | with_reducible refine iy ?_
           | with_reducible refine gw ?_ (by omega)
           | with_reducible refine ms ?_)))
     (
      (go_at_call 33
       first
         | with_reducible refine(HC1.out _ (H0.out.2.2.2.1.next (ay _ W0).drew)).mono ?_
         | with_reducible refine(HC1.out _ (H0.out.2.2.2.1.next ((ay _ W0).alloc (au _) _).drew)).mono ?_
       rintro e w1 ⟨h,t,rfl,hD1,hg1⟩;have hA:∃W9:World,W9.grownBy w1 (some d)∧Below W0.heap.size W0 W9:=by first|exact⟨_,hg1,(ay _ W0).drew⟩|exact⟨_,hg1,((ay _ W0).alloc (au _) _).drew⟩
       obtain⟨W9,hg9,hb9⟩:=hA;have kg1:=(H0.out.1.below hb9 H0.out.1.lt).grown hg9 (fun e=>hgd (by injection e));have kx1:=(H0.out.2.2.1.below hb9 H0.out.2.2.1.lt).grown hg9 (fun e=>hne (by injection e));have y0:w1.cell? ⟨g,0,none⟩=some (.pointer (some ⟨d,0,none⟩)):=by rw[kg1.cell];rfl
       obtain⟨q0,q1,q2,_⟩:=kx1.three;have hA1:zn w g d l l2 (.slice oA (gk l).length oc) (.slice lA (ei (gk l)).l.length lcp) w1:=by
         obtain⟨_,_,_,_,k2,_⟩:=H0.out.2.2.2.1.next hb9;exact⟨kg1,(H0.out.2.2.2.2.1.next hb9).grow k2.bk hg9 (by decide),(H0.out.2.2.2.2.2.next hb9).grow k2.bk hg9 (by decide),hD1,((jG.of_below H0.out.2.1).trans (XG.of_below hb9)).trans (jG.of_grown hg9 (fun k hk=>by injection hk with hk;exact .inr hk.symm))⟩
       try have kzz:=(((Bk.new W0 68 #[.int .i64 0,.int .i64 0]).drew)).grown hg1 (fun e=>by injection e with e;omega)
       try have z0:=kzz.cell 0
       try have z1:=kzz.cell 1
       try have fz0:=kzz.frozen 0
       try have fz1:=kzz.frozen 1
       have hg3:g<w1.heap.size:=kg1.lt;have hx3:w.heap.size<w1.heap.size:=kx1.lt;have hw3:W0.heap.size≤w1.heap.size:=aA hb9.size hg9.size;have H1:=ac hA1;clear kg1 kx1 hD1 hg1 hA1 hg9 hb9))
    all_goals go_wp2_with fail
    all_goals go_meet
    ·exact⟨rfl,H1.out.below ((ay _ _).alloc (au _) _)⟩
    ·exact⟨rfl,(H1.out.set kzz (aM hlt0) 0 _).set (kzz.set 0 _) (aM hlt0) 1 _⟩
  case rest=>
    obtain⟨rfl,hA⟩:=hcut
    cases ok
    ·have hl3:=HC.out.2.1 rfl;have hz:z=1:=HZ.out;have t1:(z != 0)=true:=by rw[hz];rfl
     have HA:=ac (ae hA (ae hl3 hz));clear hA hl3 hz y0 q0 q1 q2;go_wp2_with fail;go_ret2;obtain⟨hA,hl3,hz⟩:=HA.out;subst hl3;exact⟨by rw[hz];rfl,⟨⟨_,_,hA.k,hA.f,hA.t⟩,hA.doc⟩,hA.x⟩
    ·have hz:z=0:=HZ.out;have t1:(z != 0)=false:=by rw[hz];rfl
     have y0:wc.cell? ⟨g,0,none⟩=some (.pointer (some ⟨d,0,none⟩)):=by rw[hA.k.cell];rfl
     have cLv:=vq d l2 wc hA.doc hl2;have hF:=qj l2 hl2;have cUp:=fun (W:World) (oA lA nA2:Option Addr) (oc lcp nc:Nat) h1 h2 h3=>xh (gk l2) (gk l) oA lA nA2 oc lcp nc W hF HC.out.2.2 h1 h2 h3
     have HA:=ac (ae hA (ae cLv (ae cUp hz)));clear hA hz q0 q1 q2 cLv cUp hF;go_wp2_with (
       (go_at_call 31;with_reducible refine HA.out.2.1.mono ?_
        rintro e w4 ⟨v,rfl,ho,hb⟩;obtain⟨A4,n4,c4,rfl⟩:=eA ho;obtain rfl:=ff ho;have h4:=HA.out.1.below hb;have y1:w4.cell? ⟨g,1,none⟩=some (.slice oA (gk l).length oc):=by rw[h4.k.cell];rfl
        have y2:w4.cell? ⟨g,2,none⟩=some (.slice lA (ei (gk l)).l.length lcp):=by rw[h4.k.cell];rfl
        have H4:=ac (ae h4 ho);clear h4 ho hb y0))
     go_region_held3 (fun w'=>w'.cell? ⟨g,1,none⟩=some (.slice oA (gk l).length oc)∧w'.cell? ⟨g,2,none⟩=some (.slice lA (ei (gk l)).l.length lcp))
      (first|with_reducible exact⟨y1,y2⟩|exact⟨y1,y2⟩)
      (
       (go_at_call 6;with_reducible refine(HA.out.2.2.1 _ _ _ _ _ _ _ (Rt.rd (H4.out.1.f.next (ay _ w4).drew)) (Rt.rd (H4.out.1.t.next (ay _ w4).drew)) (Rd.of_own (eC H4.out.2 (ay _ w4).drew))).mono ?_
        rintro e w5 ⟨v,rfl,ho,hb⟩;obtain⟨A5,n5,c5,rfl⟩:=eA ho;obtain rfl:=ff ho;have hb5:=(ay _ w4).drew.trans hb;have h5:=H4.out.1.below hb5;have y1:=jc hb5 y1;have y2:=jc hb5 y2;have f1:=h5.k.frozen 1;have f2:=h5.k.frozen 2;have hgl5:=h5.k.lt;have H5:=ac (ae h5 (ae (eC H4.out.2 hb5) ho));clear hb hb5 h5 ho))
     go_wp2_with fail;go_ret2;obtain⟨h5,ho4,ho5⟩:=H5.out;have hf:=zx.fin h5.k (Rt.of_own ho4) (Rt.of_own ho5) h5.doc;exact⟨by first|rfl|simp,hf.1,h5.x.trans hf.2⟩
theorem jG.below (hb:Below B w W) (h:jG g d W W') (hB:B≤W.heap.size) (hg:B≤g) (hd:B≤d):Below B w W':=
  ⟨h.os.trans hb.1,h.tape.trans hb.2,h.output.trans hb.3,aA hb.size h.size,fun k hk=>(h.block k (by omega) (fun hx=>by rcases hx with rfl|rfl<;>omega)).trans (hb.block k hk)⟩
def He:List UInt8:=[97,59,32,98,59,32,99]
def Hb:List UInt8:=[120,59,32,98,59,32,99]
theorem Dr:sf (gk Hb) (gk He)=2:=by decide +kernel
theorem Hc:(gk Hb).length=5:=by decide +kernel
theorem Dq (w:World):jJ 4 #[] w (.bool true):=by
  have c1:Calls Tryz.prog 10 #[.string ⟨#[97,59,32,98,59,32,99]⟩] w fun e w'=>∃g d,e=.returned (.tuple #[.pointer (some ⟨g,0,none⟩),.int .i64 0])∧w.heap.size≤g∧w.heap.size≤d∧zx w' g d He∧Below w.heap.size w w':=Ju He w (by decide)
  have c2:∀g d W,zx W g d He→Calls Tryz.prog 11 #[.pointer (some ⟨g,0,none⟩),.agg #[.int .i64 0,.string ⟨#[97]⟩,.string ⟨#[120]⟩]] W fun e w'=>e=.returned (.tuple #[.int .i64 2,.int .i64 0])∧zx w' g d Hb∧jG g d W w':=fun g d W h=>by
    refine(Ds g d He Hb ⟨0,[97],[120],by omega⟩ true W h (by decide) (by decide) (fun h=>by cases h) (fun W hW=>?_)).mono ?_
    ·refine(Hr d ⟨[],[97],[120],[59,32,98,59,32,99]⟩ W hW (by decide) (by decide) (Ft _).1 (Ft _).2).mono ?_;rintro e w' ⟨T,_,rfl,h2,h4⟩;exact⟨_,_,rfl,h2,h4⟩
    ·rintro e w' ⟨rfl,h1,h2⟩;rw[aB rfl,Dr];exact⟨rfl,h1,h2⟩
  have c3:∀g d W,zx W g d Hb→Calls Tryz.prog 12 #[.pointer (some ⟨g,0,none⟩)] W fun e w'=>(∃A c,e=.returned (.slice A 5 c))∧Below W.heap.size W w':=fun g d W h=>by
    refine(Ay g d _ W h (by decide)).mono ?_;rintro e w' ⟨v,rfl,h1,h2⟩;rw[Hc] at h1;obtain⟨A,n,c,rfl⟩:=eA h1;obtain rfl:=ff h1;exact⟨⟨A,c,rfl⟩,h2⟩
  have HC:=ac (ae c1 (ae c2 c3));clear c1 c2 c3;go_enter Tryz.func4,Tryz.ntmps4
  go_wp2_with (first
    | (go_at_call 12;with_reducible refine(HC.out.2.2 _ _ _ H2.out.1).mono ?_
       rintro e w3 ⟨⟨A,c,rfl⟩,hb⟩;have H3:=ac (H2.out.2.trans (hb.mono H2.out.2.size));clear hb)
    | (go_at_call 11;with_reducible refine(HC.out.2.1 _ _ _ H1.out.2.2.1).mono ?_
       rintro e w2 ⟨rfl,hD,hx⟩;have H2:=ac (ae hD (jG.below H1.out.2.2.2 hx H1.out.2.2.2.size H1.out.1 H1.out.2.1));clear hD hx)
    | (go_at_call 10;with_reducible refine HC.out.1.mono ?_
       rintro e w1 ⟨g,d,rfl,hg,hd,hD,hb⟩;have H1:=ac (ae hg (ae hd (ae hD hb)));clear hg hd hD hb)
    | fail)
  go_ret;exact⟨rfl,H3.out⟩
end Go.Proofs.YtmclohkaiemnaaaGreatDoor
