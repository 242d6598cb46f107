/- Package relex: Apply, up to its loop. -/
import Derived.Test.YtmclohkaiemnaaaGreatDoorRt10
import Derived.Test.YtmclohkaiemnaaaGreatDoorNw10
import Derived.Test.YtmclohkaiemnaaaGreatDoorEd10
import Derived.Test.YtmclohkaiemnaaaGreatDoorMb13
import Derived.Deep.DeepCutAuto
import Derived.Deep.CutBlock
import Derived.Deep.RegionHeld3
set_option linter.unusedVariables false
set_option linter.unusedSimpArgs false
set_option maxRecDepth 100000
set_option maxHeartbeats 8000000
namespace Go.Proofs.YtmclohkaiemnaaaGreatDoor
open Go.RowKit
theorem Ox {P:Program} {c:Code} {Q:Exit→Act→World→Prop} {a:Act} {w:World} {cs1 cs2 cs3:Array Value} {t1 t2 t3:TypeId}
    (h:∀W,Below w.heap.size w W→Bk W w.heap.size t1 cs1→Bk W (w.heap.size+1) t2 cs2→Bk W (w.heap.size+1+1) t3 cs3→W.heap.size=w.heap.size+3→c.wp P Q a W):c.wp P Q a (((w.alloc (.cells cs1 t1)).alloc (.cells cs2 t2)).alloc (.cells cs3 t3)):=
  h _ ((((ay _ _).alloc (au _) _).alloc (by simp) _).alloc (by simp<;>omega) _) (((Bk.new _ _ _).alloc _).alloc _) ((fB w _ _ _ _).alloc _) (by simpa using Bk.new ((w.alloc (.cells cs1 t1)).alloc (.cells cs2 t2)) t3 cs3) (by simp)
end Go.Proofs.YtmclohkaiemnaaaGreatDoor
set_option linter.unusedVariables false
set_option linter.unusedSimpArgs false
set_option maxRecDepth 100000
set_option maxHeartbeats 8000000
namespace Go.Proofs.YtmclohkaiemnaaaGreatDoor
section
open Go.RowKit
attribute [local go_sem] Oper.semAt_some
section
theorem JB {l:List UInt8} {xs:List PV} (h:jM xs=gI l):∀(i j:Nat) (p q:PV),i≤j→xs[i]? = some p→xs[j]? = some q→p.t.to≤q.t.to:=by
  intro i j p q hij hp hq;have h1:(gI l)[i]? = some (p.t,p.X):=by rw[←h];simp[jM,hp]
  have h2:(gI l)[j]? = some (q.t,q.X):=by rw[←h];simp[jM,hq]
  rcases Nat.eq_or_lt_of_le hij with rfl|hij
  ·rw[hp] at hq;injection hq with hq;rw[hq];exact au _
  ·have h3:=kV h1 h2 hij;have h4:=iM l _ _ _ (aI h2);have h3:p.t.to≤q.t.fr:=h3;have h4:q.t.fr<q.t.to:=h4.2.1;omega
theorem JC {l:List UInt8} {xs:List PV} (h:jM xs=gI l):∀(i j:Nat) (p q:PV),i≤j→xs[i]? = some p→xs[j]? = some q→p.t.fr≤q.t.fr:=by
  intro i j p q hij hp hq;have h1:(gI l)[i]? = some (p.t,p.X):=by rw[←h];simp[jM,hp]
  have h2:(gI l)[j]? = some (q.t,q.X):=by rw[←h];simp[jM,hq]
  rcases Nat.eq_or_lt_of_le hij with rfl|hij
  ·rw[hp] at hq;injection hq with hq;rw[hq];exact au _
  ·have h3:=kV h1 h2 hij;have h4:=iM l _ _ _ (aI h1);have h3:p.t.to≤q.t.fr:=h3;have h4:p.t.fr<p.t.to:=h4.2.1;omega
theorem BC {l:List UInt8} {xs:List PV} (h:jM xs=gI l):xs.length=(gI l).length∧xs.length≤l.length:=by
  have h1:=congrArg List.length h;have h2:=sI l 0 mZ;simp[jM] at h1;exact⟨h1,by rw[h1];exact aA h2 (by omega)⟩
theorem F5 {l:List UInt8} {xs:List PV} (h:jM xs=gI l) {k a:Nat} (hk:k≤xs.length) (h1:∀(i:Nat) (q:PV),xs[i]? = some q→(q.t.to+2≤a↔i<k)):k=uv l a:=by
  have hle:=tO l a;have hl:=(BC h).1;have key:∀i,i<xs.length→(i<k↔i<uv l a):=fun i hi=>by
    obtain⟨q,hq⟩:∃q,xs[i]? = some q:=⟨_,ax hi⟩;have h2:(gI l)[i]? = some (q.t,q.X):=by rw[←h];simp[jM,hq]
    exact(h1 i q hq).symm.trans (wI h2)
  rcases Nat.lt_trichotomy k (uv l a) with h3|h3|h3
  ·have:=(key k (by omega)).2 h3;omega
  ·exact h3
  ·have:=(key (uv l a) (by omega)).1 h3;omega
theorem Rt.drop {w:World} {e:TypeId} {sz n c:Nat} {g o:Nat} {xs:List Value} (h:Rt w e sz (.slice (some ⟨g,o,none⟩) n c) n xs) {k:Nat} (hk:k≤n):Rt w e sz (.slice (some ⟨g,o+k*sz,none⟩) (n-k) (c-k)) (n-k) (xs.drop (k*sz)):=by
  obtain⟨h1,A',c',h2,h3,h4,h5,h6⟩:=h
  cases h2;refine⟨?_,_,_,rfl,by omega,by omega,fun h=>(by cases h),fun hn=>?_⟩
  ·rw[aZ,h1,Nat.sub_mul]
  ·obtain⟨g',o',cur,fr,ha,hg,hc⟩:=h6 (by omega)
   cases ha;refine⟨_,_,cur,fr,rfl,hg,fun j u hj=>?_⟩;rw[bv] at hj
   have:=hc _ u hj
   rwa [←Nat.add_assoc] at this
theorem EH (ys:List PV) (k:Nat):(iB ys).drop (k*7)=iB (ys.drop k):=by
  have h1:=xS ys k;have h2:iB ys=iB (ys.take k)++iB (ys.drop k):=by rw[←lJ,cE]
  have h3:=cE (k*7) (iB ys);rw[h1] at h3;exact List.append_cancel_left (h3.trans h2)
theorem i4 {W w':World} {a:Addr} {v:Value} (h:Below W.heap.size W w') (hc:W.cell? a=some v):w'.cell? a=some v:=pH (row:=none) hc ⟨h.1,h.2,h.3,h.size,fun k hk _=>h.block k hk⟩ (fun k hk=>by cases hk)
theorem Bk.one {w:World} {g:Nat} {t:TypeId} {x:Value} (h:Bk w g t #[x]):w.cell? ⟨g,0,none⟩=some x∧w.frozen? ⟨g,0,none⟩=false:=⟨h.cell 0,h.frozen 0⟩
def MW (W8 wx:World) (s t:Value) (t1 t2:TypeId) (cs ds:Array Value) (N:Nat) (e:TypeId) (sz n:Nat) (v:Value) (xs:List Value):Prop:=
  ∃b1 b2:Nat,s=.pointer (some ⟨b1,0,none⟩)∧t=.pointer (some ⟨b2,0,none⟩)∧Bk wx b1 t1 cs∧Bk wx b2 t2 ds∧W8.heap.size≤b1∧W8.heap.size≤b2∧wx.ownsRow N e sz v n xs∧Below W8.heap.size W8 wx
section
variable {W8 w9:World} {t1 t2 e:TypeId} {a0 d0 d1 d2 u0 z0 z1 z2 v:Value} {N sz n:Nat} {xs:List Value}
theorem Ou (hb:Below W8.heap.size W8 w9) (ho:w9.ownsRow N e sz v n xs):MW W8 ((w9.alloc (.cells #[a0] t1)).alloc (.cells #[d0,d1,d2] t2)) (.pointer (some ⟨w9.heap.size,0,none⟩)) (.pointer (some ⟨w9.heap.size+1,0,none⟩)) t1 t2 #[a0] #[d0,d1,d2] N e sz n v xs:=
  ⟨_,_,rfl,rfl,(Bk.new w9 _ _).alloc _,fB w9 _ _ _ _,hb.size,by have:=hb.size;omega,(ho.alloc _).alloc _,(hb.alloc hb.size _).alloc (by have:=hb.size;simp;omega) _⟩
theorem OK (hb:Below W8.heap.size W8 w9) (ho:w9.ownsRow N e sz v n xs):MW W8 ((w9.alloc (.cells #[d0,d1,d2] t2)).alloc (.cells #[a0] t1)) (.pointer (some ⟨w9.heap.size+1,0,none⟩)) (.pointer (some ⟨w9.heap.size,0,none⟩)) t1 t2 #[a0] #[d0,d1,d2] N e sz n v xs:=
  ⟨_,_,rfl,rfl,fB w9 _ _ _ _,(Bk.new w9 _ _).alloc _,by have:=hb.size;omega,hb.size,(ho.alloc _).alloc _,(hb.alloc hb.size _).alloc (by have:=hb.size;simp;omega) _⟩
theorem OJ {b:Nat} (hb:Below W8.heap.size W8 w9) (ho:w9.ownsRow N e sz v n xs) (k:Bk w9 b t1 #[u0]) (hw:W8.heap.size≤b) (he:e≠t1):MW W8 ((w9.setCell ⟨b,0,none⟩ a0).alloc (.cells #[d0,d1,d2] t2)) (.pointer (some ⟨b,0,none⟩)) (.pointer (some ⟨w9.heap.size,0,none⟩)) t1 t2 #[a0] #[d0,d1,d2] N e sz n v xs:=by
  have h1:=k.set 0 a0;have h2:=hb.setCell (p:=⟨b,0,none⟩) hw a0;have h3:=fh (p:=⟨b,0,none⟩) ho (eP ho k he) a0;have h4:(w9.setCell ⟨b,0,none⟩ a0).heap.size=w9.heap.size:=by simp
  generalize w9.setCell ⟨b,0,none⟩ a0=W at h1 h2 h3 h4 ⊢;exact⟨_,W.heap.size,rfl,by rw[h4],h1.alloc _,Bk.new W _ _,hw,h2.size,h3.alloc _,h2.alloc h2.size _⟩
theorem xG {b:Nat} (hb:Below W8.heap.size W8 w9) (ho:w9.ownsRow N e sz v n xs) (k:Bk w9 b t2 #[z0,z1,z2]) (hw:W8.heap.size≤b) (he:e≠t2):∀W,W=(((w9.setCell ⟨b,0,none⟩ d0).setCell ⟨b,1,none⟩ d1).setCell ⟨b,2,none⟩ d2) →
    Bk W b t2 #[d0,d1,d2]∧Below W8.heap.size W8 W∧W.ownsRow N e sz v n xs∧W.heap.size=w9.heap.size∧∀g t cs,Bk w9 g t cs→g≠b→Bk W g t cs:=by
  rintro W rfl;have hne:=eP ho k he
  exact⟨((k.set 0 d0).set 1 d1).set 2 d2,((hb.setCell (p:=⟨b,0,none⟩) hw _).setCell (p:=⟨b,1,none⟩) hw _).setCell (p:=⟨b,2,none⟩) hw _,fh (p:=⟨b,2,none⟩) (fh (p:=⟨b,1,none⟩) (fh (p:=⟨b,0,none⟩) ho hne d0) hne d1) hne d2,by simp,
    fun g t cs h hg=>((h.far (p:=⟨b,0,none⟩) hg _).far (p:=⟨b,1,none⟩) hg _).far (p:=⟨b,2,none⟩) hg _⟩
theorem OI {b:Nat} (hb:Below W8.heap.size W8 w9) (ho:w9.ownsRow N e sz v n xs) (k:Bk w9 b t2 #[z0,z1,z2]) (hw:W8.heap.size≤b) (he:e≠t2):MW W8 ((((w9.setCell ⟨b,0,none⟩ d0).setCell ⟨b,1,none⟩ d1).setCell ⟨b,2,none⟩ d2).alloc (.cells #[a0] t1)) (.pointer (some ⟨w9.heap.size,0,none⟩)) (.pointer (some ⟨b,0,none⟩)) t1 t2 #[a0] #[d0,d1,d2] N e sz n v xs:=by
  obtain⟨h1,h2,h3,h4,_⟩:=xG (d0:=d0) (d1:=d1) (d2:=d2) hb ho k hw he _ rfl;generalize World.setCell _ _ _=W at h1 h2 h3 h4 ⊢;exact⟨W.heap.size,_,by rw[h4],rfl,Bk.new W _ _,h1.alloc _,h2.size,hw,h3.alloc _,h2.alloc h2.size _⟩
theorem OE {b b':Nat} (hb:Below W8.heap.size W8 w9) (ho:w9.ownsRow N e sz v n xs) (k':Bk w9 b' t1 #[u0]) (k:Bk w9 b t2 #[z0,z1,z2]) (hne:b'≠b) (hw':W8.heap.size≤b') (hw:W8.heap.size≤b) (he':e≠t1) (he:e≠t2) :
    MW W8 ((((w9.setCell ⟨b',0,none⟩ a0).setCell ⟨b,0,none⟩ d0).setCell ⟨b,1,none⟩ d1).setCell ⟨b,2,none⟩ d2) (.pointer (some ⟨b',0,none⟩)) (.pointer (some ⟨b,0,none⟩)) t1 t2 #[a0] #[d0,d1,d2] N e sz n v xs:=by
  have g1:=k'.set 0 a0;have g2:=hb.setCell (p:=⟨b',0,none⟩) hw' a0;have g3:=fh (p:=⟨b',0,none⟩) ho (eP ho k' he') a0;have g4:=k.far (p:=⟨b',0,none⟩) hne.symm a0;generalize w9.setCell ⟨b',0,none⟩ a0=w8 at g1 g2 g3 g4 ⊢;obtain⟨h1,h2,h3,h4,h5⟩:=xG (d0:=d0) (d1:=d1) (d2:=d2) g2 g3 g4 hw he _ rfl;exact⟨_,_,rfl,rfl,h5 _ _ _ g1 hne,h1,hw',hw,h3,h2⟩
end
theorem vM (l:List UInt8):∀k x X,X.pd.length≤x→(nw l k x X).2.pd.length≤(nw l k x X).1
  | 0,x,X,h=>h
  | k+1,x,X,h=>by
    unfold nw;by_cases hx:x<l.length
    ·rw[aB hx];have h1:=ii l x hx X;have h2:=Bq l x X;exact vM l k _ _ (by omega)
    ·rw[aC hx];exact h
attribute [-go_sem] Builtin.append_
theorem Hr (g:Nat) (ed:Ed) (w:World) (hD:rU w g ed.old) (hl:ed.old.length≤900) (hl':ed.new.length≤900) (hok:yh ed.old ed.d (ed.a.length:Int)=true) (hnew:C2 ed.old ed.d ed.i (ed.a.length:Int)=ed.new) :
    Calls Tryz.prog 33 #[.pointer (some ⟨g,0,none⟩),NQ (ed.a.length:Int) ed.d ed.i] w fun e w'=>∃T:Nat,oX ed T∧e=.returned (.tuple #[.agg #[.int .i64 (uv ed.old ed.a.length:Int),.int .i64 (T:Int)],.int .i64 0])∧rU w' g ed.new∧w.grownBy w' (some g):=by
  obtain⟨i0,hi0,hz0,hz1,hz2⟩:=cL Tryz.infoPlace;obtain⟨xs,lv,pv,hpr,hD,hr⟩:=hD;obtain⟨hlen1,hlen2⟩:=BC hpr;obtain⟨A,c,rfl⟩:=hr.form;have hg:=hD.bk.lt;have he1:ed.a.length+ed.d.length≤ed.old.length:=by unfold Ed.old;simp only[aD];omega
  have he2:ed.a.length+ed.i.length≤ed.new.length:=by unfold Ed.new;simp only[aD];omega
  have hDo:∀W,jJ 53 #[.string ⟨ed.old.toArray⟩,NQ (ed.a.length:Int) ed.d ed.i] W (.tuple #[.string ⟨ed.new.toArray⟩,.int .i64 0]):=fun W=>by
    have:=Oz ed.old ed.d ed.i (ed.a.length:Int) W (by omega) (by omega) (by omega) (by omega)
    rw[hok,hnew] at this;exact this
  have hHead:∀W,Below w.heap.size w W→jJ 54 #[.pointer (some ⟨g,0,none⟩),.int .i64 (ed.a.length:Int)] W (.int .i64 (uv ed.old ed.a.length:Int)):=fun W hW=>by
    refine(Ml g ed.old (jf ed.old).2 xs _ pv ed.a.length W (hD.below hW) (hr.next hW) (by omega) (by omega) (JB hpr)).mono ?_;rintro e w' ⟨k,rfl,h1,h2,h3⟩;exact⟨by rw[F5 hpr h1 h2],h3⟩
  obtain⟨K,hK⟩:∃K,K=uv ed.old ed.a.length:=⟨_,rfl⟩;have hKle:K≤xs.length:=by rw[hK,hlen1];exact tO _ _
  rw[←hK] at hHead ⊢;have H0:=ac (ae hDo (ae hHead (ae hD (ae hr (ae hpr (ae hK hlen1))))));have y0:w.cell? ⟨g,0,none⟩=some (.string ⟨ed.old.toArray⟩):=by rw[hD.bk.cell];rfl
  have y1:w.cell? ⟨g,1,none⟩=some (.slice A xs.length c):=by rw[hD.bk.cell];rfl
  clear hDo hHead hD hr hpr hK hok hnew hlen1;refine(aX (n:=5)).1 ?_;refine callsIn_of_wp_marks Tryz.func33 rfl trivial ?_ rfl;simp only[Tryz.ntmps33,cJ,aL,cg,Nat.reduceAdd,Nat.reduceSub,cy,cz,cO,cH,cK,bH];refine wpIn_wide.2 ?_;go_wp2;refine Ox fun W hbW hk0 hk1 hk2 hsW=>?_
  have p0:W.cell? ⟨w.heap.size,0,none⟩=some (.pointer (some ⟨g,0,none⟩)):=by rw[hk0.cell];rfl
  obtain⟨q0,q1,q2,_⟩:=hk1.three;have y2:W.cell? ⟨g,0,none⟩=some (.string ⟨ed.old.toArray⟩):=(Ck hbW).1 g 0 hg▸y0;have y3:W.cell? ⟨g,1,none⟩=some (.slice A xs.length c):=(Ck hbW).1 g 1 hg▸y1;have HW:=ac (ae hbW (ae hk0 (ae hk1 (ae hk2 hsW))));clear hbW hk0 hk1 hk2 hsW y0 y1;refine wp_scope_straight ?_;go_wp2_with fail
  go_region_held3 (fun w'=>w'.cell? ⟨w.heap.size,0,none⟩=some (.pointer (some ⟨g,0,none⟩))∧w'.cell? ⟨g,0,none⟩=some (.string ⟨ed.old.toArray⟩)∧w'.cell? ⟨w.heap.size+1,0,none⟩=some (.int .i64 (ed.a.length:Int))∧w'.cell? ⟨w.heap.size+1,1,none⟩=some (.string ⟨ed.d.toArray⟩)∧w'.cell? ⟨w.heap.size+1,2,none⟩=some (.string ⟨ed.i.toArray⟩))
   (first
    | with_reducible exact⟨p0,y2,q0,q1,q2⟩
    | exact⟨p0,y2,q0,q1,q2⟩)
   (
    (go_at_call 53;refine(H0.out.1 _).mono ?_;rintro e w5 ⟨rfl,hb5⟩;have hb5:Below W.heap.size W w5:=(ay _ W).drew.trans hb5;have hk0:=HW.out.2.1.below hb5 HW.out.2.1.lt;have hk1:=HW.out.2.2.1.below hb5 HW.out.2.2.1.lt;have hk2:=HW.out.2.2.2.1.below hb5 HW.out.2.2.2.1.lt;have y2:w5.cell? ⟨g,0,none⟩=some (.string ⟨ed.old.toArray⟩):=y2▸(Ck hb5).1 _ _ (by have:=HW.out.2.2.2.2;omega);have y3:w5.cell? ⟨g,1,none⟩=some (.slice A xs.length c):=y3▸(Ck hb5).1 _ _ (by have:=HW.out.2.2.2.2;omega);clear p0 q0 q1 q2;have p0:w5.cell? ⟨w.heap.size,0,none⟩=some (.pointer (some ⟨g,0,none⟩)):=by rw[hk0.cell];rfl
     obtain⟨q0,q1,q2,_⟩:=hk1.three;have H5:=ac (ae (HW.out.1.trans (hb5.mono HW.out.1.size)) (ae hk0 (ae hk1 (ae hk2 (aA (Nat.le_of_eq HW.out.2.2.2.2.symm) hb5.size)))));clear hb5 hk0 hk1 hk2))
  go_upto_region 4 with fail
  clear HW;have hz5:w.heap.size+3≤w5.heap.size:=H5.out.2.2.2.2;have vw:IntKind.i64.wrap ((ed.i.length:Int)-(ed.d.length:Int))=(ed.i.length:Int)-(ed.d.length:Int):=aO _ (by omega);go_cut [8,9] from 32 to 42 (fun s t wx=>∃b:Nat,s=.int .i64 (K:Int)∧t=.pointer (some ⟨b,0,none⟩)∧Bk wx b 3 #[.int .i64 ((ed.i.length:Int)-(ed.d.length:Int))]∧w.heap.size+3≤b∧Below w5.heap.size w5 wx)
  case first=>
    go_region_held3 (fun w'=>w'.cell? ⟨w.heap.size,0,none⟩=some (.pointer (some ⟨g,0,none⟩))∧w'.cell? ⟨w.heap.size+1,0,none⟩=some (.int .i64 (ed.a.length:Int))∧w'.cell? ⟨w.heap.size+1,1,none⟩=some (.string ⟨ed.d.toArray⟩)∧w'.cell? ⟨w.heap.size+1,2,none⟩=some (.string ⟨ed.i.toArray⟩))
     (first
      | with_reducible exact⟨p0,q0,q1,q2⟩
      | (try dsimp only
         repeat' (first
           | with_reducible assumption
           | with_reducible apply ae
           | with_reducible refine iy ?_
           | with_reducible refine gw ?_ (by omega)
           | with_reducible refine ms ?_)))
     (
      (go_at_call 54;with_reducible refine(H0.out.2.1 _ ?_).mono ?_
       ·have h5:=H5.out.1
        first
          | exact h5.drew
          | exact(h5.alloc h5.size _).drew
       rintro e w6 ⟨rfl,hb6⟩;have hbx:Below w5.heap.size w5 w6:=by
         first
           | exact(ay _ w5).drew.trans hb6
           | exact((ay _ w5).alloc (au _) _).drew.trans (hb6.mono (by simp))
       try have HT:=ac (Bk.below (w:=(w5.alloc (.cells #[.int .i64 0] 3)).drew) (Bk.new w5 3 #[.int .i64 0]) hb6 (by simp))
       try have t0:w6.cell? ⟨w5.heap.size,0,none⟩=some (.int .i64 0):=by rw[HT.out.cell];rfl
       try have t1:=HT.out.frozen 0
       have hk0:=H5.out.2.1.below hbx H5.out.2.1.lt;have hk1:=H5.out.2.2.1.below hbx H5.out.2.2.1.lt;have p0:w6.cell? ⟨w.heap.size,0,none⟩=some (.pointer (some ⟨g,0,none⟩)):=by rw[hk0.cell];rfl
       obtain⟨q0,q1,q2,_⟩:=hk1.three;have hz:w.heap.size+3≤w6.heap.size:=aA H5.out.2.2.2.2 hbx.size;have H6:=ac hbx;clear hb6 hbx hk0 hk1))
    all_goals go_wp2_with fail
    all_goals go_meet
    all_goals (first
      | exact⟨w6.heap.size,rfl,rfl,Bk.new w6 _ _,hz,H6.out.alloc H6.out.size _⟩
      | exact⟨w5.heap.size,rfl,rfl,HT.out.set 0 _,hz5,H6.out.setCell (p:=⟨w5.heap.size,0,none⟩) (au _) _⟩)
  obtain⟨b9,rfl,rfl,k9,hb9,hb5c⟩:=hcut;obtain⟨f1,f2,f3,f4,_⟩:=H5.out;have H7:=ac (ae (f1.trans (hb5c.mono f1.size)) (ae (f2.below hb5c f2.lt) (ae (f3.below hb5c f3.lt) (ae (f4.below hb5c f4.lt) (ae k9 (ae hb9 (aA hz5 hb5c.size)))))));clear f1 f2 f3 f4 k9 hb9 hb5c H5 p0 q0 q1 q2 y2 y3;obtain⟨R,hR⟩:∃R,R=vR ed.old K:=⟨_,rfl⟩;obtain⟨x0,Z0⟩:=R;have hRest:∀W,Below w.heap.size w W→Calls Tryz.prog 55 #[.pointer (some ⟨g,0,none⟩),.int .i64 (K:Int)] W fun e w'=>∃v,e=.returned (.tuple #[.int .i64 (x0:Int),.agg #[.int .i64 Z0.aw,v,.bool Z0.bd]])∧Rt W 120 2 v Z0.pd.length (fQ Z0.pd)∧Below W.heap.size W w':=fun W hW=>by
    refine(CG g ed.old (jf ed.old).2 xs _ pv K W (H0.out.2.2.1.below hW) (H0.out.2.2.2.1.next hW) (by omega) (by omega) hKle).mono ?_;rintro e w' ⟨x,Z,v,rfl,h1,h2,h3⟩;have hxz:(x,Z)=(x0,Z0):=by
      rw[hR];rcases h2 with ⟨q,hq,rfl,rfl⟩|⟨h4,rfl,rfl⟩
      ·have h5:(gI ed.old)[K]? = some (q.t,q.X):=by rw[←H0.out.2.2.2.2.1];simp[jM,hq]
       exact(IO h5).symm
      ·rw[h4,H0.out.2.2.2.2.2.2];exact(IP ed.old).symm
    injection hxz with h6 h7
    subst h6 h7;exact⟨v,rfl,h1,h3⟩
  have HR:=ac (ae hRest hR);clear hRest hR;have p0:wc.cell? ⟨w.heap.size,0,none⟩=some (.pointer (some ⟨g,0,none⟩)):=by rw[H7.out.2.1.cell];rfl
  go_wp2_with (
    (go_at_call 55;refine(HR.out.1 _ H7.out.1).mono ?_;rintro e w7 ⟨v7,rfl,hr7,hb7⟩;obtain⟨A7,c7,rfl⟩:=hr7.form;have H8:=ac (ae hr7 hb7);clear hr7 hb7))
  refine li fun W8 hb8 k8 hs8=>?_
  have hb8':Below wc.heap.size wc W8:=H8.out.2.trans (hb8.mono H8.out.2.size);obtain⟨g1,g2,g3,g4,g5,g6,g7⟩:=H7.out;have H9:=ac (ae (g1.trans (hb8'.mono g1.size)) (ae (g2.below hb8' g2.lt) (ae (g3.below hb8' g3.lt) (ae (g4.below hb8' g4.lt) (ae (g5.below hb8' g5.lt) (ae k8 (ae (H8.out.1.next hb8') (aA g7 hb8'.size))))))));have hz8:w.heap.size+3≤w7.heap.size:=aA g7 H8.out.2.size;have hz9:w.heap.size+4≤W8.heap.size:=by omega
  have h98:b9<W8.heap.size:=H9.out.2.2.2.2.1.lt;have h78:w7.heap.size<W8.heap.size:=by omega
  clear hs8;clear hb8 k8 hb8' g1 g2 g3 g4 g5 g7 H7 H8 p0;have p0:W8.cell? ⟨w.heap.size,0,none⟩=some (.pointer (some ⟨g,0,none⟩)):=by rw[H9.out.2.1.cell];rfl
  have hD8:=H0.out.2.2.1.below H9.out.1;have y3:W8.cell? ⟨g,1,none⟩=some (.slice A xs.length c):=by rw[hD8.bk.cell];rfl
  obtain⟨q0,q1,q2,_⟩:=H9.out.2.2.2.2.2.1.three;have u1:(0:Int)≤(K:Int):=by omega
  have u2:(K:Int)≤(c:Int):=by have:=H0.out.2.2.2.1.le;omega
  clear hD8;have hClone:∀W,Below w.heap.size w W→Calls Tryz.prog 56 #[.slice A K c] W fun e w'=>∃v,e=.returned v∧w'.ownsRow W.heap.size 94 7 v K (iB (xs.take K))∧Below W.heap.size W w':=fun W hW=>by
    have h1:=((H0.out.2.2.2.1.take hKle).next hW).rd;rw[xS] at h1;have h2:(xs.take K).length=K:=by rw[bz];omega
    have h3:=GV (xs.take K) A c W (by rw[h2];exact h1) (by omega) (fun q hq=>by obtain⟨A',c',h⟩:=(H0.out.2.2.1.ps q (cC hq)).form;exact⟨A',_,c',h⟩)
    rwa [h2] at h3
  have HCl:=ac hClone;clear hClone;go_cut [12,13] from 49 to 56 (fun s t wx=>∃v:Value,MW W8 wx s t 82 85 #[v] #[.int .i64 Z0.aw,.slice A7 Z0.pd.length c7,.bool Z0.bd] w.heap.size 94 7 K v (iB (xs.take K)))
  case first=>
    go_region_held3 (fun w'=>w'.cell? ⟨w.heap.size,0,none⟩=some (.pointer (some ⟨g,0,none⟩))∧w'.cell? ⟨g,1,none⟩=some (.slice A xs.length c)∧w'.cell? ⟨w7.heap.size,0,none⟩=some (.int .i64 Z0.aw)∧w'.cell? ⟨w7.heap.size,1,none⟩=some (.slice A7 Z0.pd.length c7)∧w'.cell? ⟨w7.heap.size,2,none⟩=some (.bool Z0.bd))
     (first
      | with_reducible exact⟨p0,y3,q0,q1,q2⟩
      | (try dsimp only
         repeat' (first
           | with_reducible assumption
           | with_reducible apply ae
           | with_reducible refine iy ?_
           | with_reducible refine gw ?_ (by omega)
           | with_reducible refine ms ?_)))
     (
      (go_at_call 56;with_reducible refine(HCl.out _ ?_).mono ?_
       ·have h5:=H9.out.1
        first
          | exact h5.drew
          | exact(h5.alloc h5.size _).drew
          | exact((h5.alloc h5.size _).alloc (by simp;omega) _).drew
       rintro e w9 ⟨v9,rfl,ho9,hb9'⟩;have hbx:Below W8.heap.size W8 w9:=by
         first
           | exact(ay _ W8).drew.trans hb9'
           | exact((ay _ W8).alloc (au _) _).drew.trans (hb9'.mono (by simp))
           | exact(((ay _ W8).alloc (au _) _).alloc (by simp) _).drew.trans (hb9'.mono (by simp<;>omega))
       try have HT:=ac (Bk.below (w:=(W8.alloc (.cells #[.slice none 0 0] 82)).drew) (Bk.new W8 82 #[.slice none 0 0]) hb9' (by simp<;>omega))
       try have HL:=ac (Bk.below (w:=(W8.alloc (.cells #[.int .i64 0,.slice none 0 0,.bool false] 85)).drew) (Bk.new W8 85 #[.int .i64 0,.slice none 0 0,.bool false]) hb9' (by simp<;>omega))
       try have HT:=ac (Bk.below (w:=((W8.alloc (.cells #[.slice none 0 0] 82)).alloc (.cells #[.int .i64 0,.slice none 0 0,.bool false] 85)).drew) ((Bk.new W8 82 #[.slice none 0 0]).alloc _) hb9' (by simp<;>omega))
       try have HL:=ac (Bk.below (w:=((W8.alloc (.cells #[.slice none 0 0] 82)).alloc (.cells #[.int .i64 0,.slice none 0 0,.bool false] 85)).drew) (fB W8 _ _ _ _) hb9' (by simp<;>omega))
       try have HL:=ac (Bk.below (w:=((W8.alloc (.cells #[.int .i64 0,.slice none 0 0,.bool false] 85)).alloc (.cells #[.slice none 0 0] 82)).drew) ((Bk.new W8 85 #[.int .i64 0,.slice none 0 0,.bool false]).alloc _) hb9' (by simp<;>omega))
       try have HT:=ac (Bk.below (w:=((W8.alloc (.cells #[.int .i64 0,.slice none 0 0,.bool false] 85)).alloc (.cells #[.slice none 0 0] 82)).drew) (fB W8 _ _ _ _) hb9' (by simp<;>omega))
       try obtain⟨t0,t1⟩:=HT.out.one
       try have j1:=HT.out.lt
       try have j2:=HL.out.lt
       try have j3:¬W8.heap.size=w9.heap.size:=by omega
       try have j4:¬W8.heap.size+1=w9.heap.size:=by omega
       try have j5:¬w9.heap.size=W8.heap.size:=by omega
       try have j6:¬w9.heap.size=W8.heap.size+1:=by omega
       try obtain⟨s3,s4,s5,s0,s1,s2⟩:=HL.out.three
       have hk0:=H9.out.2.1.below hbx H9.out.2.1.lt;have p0:w9.cell? ⟨w.heap.size,0,none⟩=some (.pointer (some ⟨g,0,none⟩)):=by rw[hk0.cell];rfl
       have hk1:=(H0.out.2.2.1.below (H9.out.1.trans (hbx.mono H9.out.1.size))).bk;have y3:w9.cell? ⟨g,1,none⟩=some (.slice A xs.length c):=by rw[hk1.cell];rfl
       have hk2:=H9.out.2.2.2.2.2.1.below hbx H9.out.2.2.2.2.2.1.lt;obtain⟨q0,q1,q2,_⟩:=hk2.three;obtain⟨A9,n9,c9,rfl⟩:=eA ho9;obtain rfl:K=n9:=(ff ho9).symm;have hsz:=hbx.size;have H10:=ac (ae (iW (B':=w.heap.size) ho9 (by simp<;>omega)) hbx);clear ho9 hb9' hbx hk0 hk1 hk2))
    all_goals go_wp2_with fail
    all_goals go_meet
    all_goals refine⟨.slice A9 K c9,?_⟩
    ·exact Ou H10.out.2 H10.out.1
    ·exact OK H10.out.2 H10.out.1
    ·exact OJ H10.out.2 H10.out.1 HT.out (by omega) (by decide)
    ·exact OE H10.out.2 H10.out.1 HT.out HL.out (by omega) (by omega) (by omega) (by decide) (by decide)
    ·exact OI H10.out.2 H10.out.1 HL.out (by omega) (by decide)
    ·exact OE H10.out.2 H10.out.1 HT.out HL.out (by omega) (by omega) (by omega) (by decide) (by decide)
  clear p0 y3 q0 q1 q2 HCl;obtain⟨v12,b12,b13,rfl,rfl,k12,k13,hb12,hb13,ho12,hbc⟩:=hcut;obtain⟨g1,g2,g3,g4,g5,g6',g7,_⟩:=H9.out;have hbw:Below w.heap.size w wc:=g1.trans (hbc.mono g1.size);have HA:=ac (ae hbw (ae (g2.below hbc g2.lt) (ae (g3.below hbc g3.lt) (ae (g4.below hbc g4.lt) (ae (g5.below hbc g5.lt) (ae (g6'.below hbc g6'.lt) (ae (g7.next hbc) (ae k12 (ae k13 (ae ho12 (ae hb12 hb13)))))))))));have hD9:=H0.out.2.2.1.below hbw;have p0:wc.cell? ⟨w.heap.size,0,none⟩=some (.pointer (some ⟨g,0,none⟩)):=by rw[HA.out.2.1.cell];rfl
  have y3:wc.cell? ⟨g,1,none⟩=some (.slice A xs.length c):=by rw[hD9.bk.cell];rfl
  have hkl:=HA.out.2.2.2.2.2.1.lt;obtain⟨q0,q1,q2,_⟩:=HA.out.2.2.2.2.2.1.three;clear hb12 hb13 ho12 hbc g1 g2 g3 g4 g5 g6' g7 H9 k12 k13 hbw hD9;go_wp2_with (
    (go_at_call 48;refine(tU ed.new x0 Z0 A7 Z0.pd.length c7 _).mono ?_;rintro e w9 ⟨rfl,rfl⟩))
  refine wp_label ?_;go_wp2_with (
    (go_at_call 48;refine(tU ed.new x0 Z0 A7 Z0.pd.length c7 _).mono ?_;rintro e w9 ⟨rfl,rfl⟩))
  have hs0:((((wc.alloc (.cells #[.int .i64 (xs.length:Int)] 3)).alloc (.cells #[.string ⟨ed.new.toArray⟩] 9)).alloc (.cells #[.int .i64 (x0:Int)] 3)).alloc (.cells #[.int .i64 Z0.aw,.slice A7 Z0.pd.length c7,.bool Z0.bd] 85)).heap.size=wc.heap.size+4:=by simp
  have hb0:Below wc.heap.size wc ((((wc.alloc (.cells #[.int .i64 (xs.length:Int)] 3)).alloc (.cells #[.string ⟨ed.new.toArray⟩] 9)).alloc (.cells #[.int .i64 (x0:Int)] 3)).alloc (.cells #[.int .i64 Z0.aw,.slice A7 Z0.pd.length c7,.bool Z0.bd] 85)):=((((ay _ wc).alloc (au _) _).alloc (by simp) _).alloc (by simp<;>omega) _).alloc (by simp<;>omega) _;have kT:=((((Bk.new wc 3 #[.int .i64 (xs.length:Int)]).alloc (.cells #[.string ⟨ed.new.toArray⟩] 9)).alloc (.cells #[.int .i64 (x0:Int)] 3)).alloc (.cells #[.int .i64 Z0.aw,.slice A7 Z0.pd.length c7,.bool Z0.bd] 85));have kS:=((fB wc #[.int .i64 (xs.length:Int)] #[.string ⟨ed.new.toArray⟩] 3 9).alloc (.cells #[.int .i64 (x0:Int)] 3)).alloc (.cells #[.int .i64 Z0.aw,.slice A7 Z0.pd.length c7,.bool Z0.bd] 85);have kA:=Bk.alloc (show Bk (((wc.alloc (.cells #[.int .i64 (xs.length:Int)] 3)).alloc (.cells #[.string ⟨ed.new.toArray⟩] 9)).alloc (.cells #[.int .i64 (x0:Int)] 3)) (wc.heap.size+1+1) 3 #[.int .i64 (x0:Int)] by simpa using Bk.new ((wc.alloc _).alloc _) 3 _) (.cells #[.int .i64 Z0.aw,.slice A7 Z0.pd.length c7,.bool Z0.bd] 85);have kX:Bk ((((wc.alloc (.cells #[.int .i64 (xs.length:Int)] 3)).alloc (.cells #[.string ⟨ed.new.toArray⟩] 9)).alloc (.cells #[.int .i64 (x0:Int)] 3)).alloc (.cells #[.int .i64 Z0.aw,.slice A7 Z0.pd.length c7,.bool Z0.bd] 85)) (wc.heap.size+1+1+1) 85 #[.int .i64 Z0.aw,.slice A7 Z0.pd.length c7,.bool Z0.bd]:=by simpa using Bk.new (((wc.alloc _).alloc _).alloc _) 85 _
  generalize ((((wc.alloc (.cells #[.int .i64 (xs.length:Int)] 3)).alloc (.cells #[.string ⟨ed.new.toArray⟩] 9)).alloc (.cells #[.int .i64 (x0:Int)] 3)).alloc (.cells #[.int .i64 Z0.aw,.slice A7 Z0.pd.length c7,.bool Z0.bd] 85))=W0 at hs0 hb0 kT kS kA kX ⊢;have hrst:=ed.head;rw[←H0.out.2.2.2.2.2.1,←HR.out.2] at hrst;have hpd0:Z0.pd.length≤x0:=by
    have:=vM ed.old K 0 mZ (au _)
    rw[show nw ed.old K 0 mZ=(x0,Z0) from HR.out.2.symm] at this;exact this
  obtain⟨fx,hfx⟩:∃fx:Fx,fx=[(w.heap.size,62,#[.pointer (some ⟨g,0,none⟩)]),(w.heap.size+1,39,#[.int .i64 (ed.a.length:Int),.string ⟨ed.d.toArray⟩,.string ⟨ed.i.toArray⟩]),(w.heap.size+1+1,68,#[.int .i64 0,.int .i64 0]),(b9,3,#[.int .i64 ((ed.i.length:Int)-(ed.d.length:Int))])]:=⟨_,rfl⟩;obtain⟨j1,j2,j3,j4,j5,j6,j7,j8,j9,j10,j11,j12⟩:=HA.out;have hbw0:Below w.heap.size w W0:=j1.trans (hb0.mono j1.size);have hlt12:=j8.lt;have hlt13:=j9.lt;have hfxs:∀f∈fx,f.1<W8.heap.size∧f.2.1≠94∧Bk W0 f.1 f.2.1 f.2.2:=by
    rw[hfx];intro f hf;simp only[bj,dq,or_false] at hf;rcases hf with rfl|rfl|rfl|rfl
    ·exact⟨by show w.heap.size<_;omega,by show (62:TypeId)≠94;decide,j2.below hb0 j2.lt⟩
    ·exact⟨by show w.heap.size+1<_;omega,by show (39:TypeId)≠94;decide,j3.below hb0 j3.lt⟩
    ·exact⟨by show w.heap.size+1+1<_;omega,by show (68:TypeId)≠94;decide,j4.below hb0 j4.lt⟩
    ·exact⟨by show b9<_;omega,by show (3:TypeId)≠94;decide,j5.below hb0 j5.lt⟩
  have hI0:uG w W0.heap.size fx b12 b13 wc.heap.size (fun k=>k=wc.heap.size+1+1∨k=wc.heap.size+1+1+1) (xs.take K) Z0 (xs.length:Int) W0:=by
    have hK2:(xs.take K).length=K:=by rw[bz];omega
    have hw8:=j1.size;refine⟨⟨v12,.slice A7 Z0.pd.length c7,by rw[hK2];exact eC j10 hb0,fun k hk=>?_,j8.below hb0 hlt12,j9.below hb0 hlt13,j7.next hb0⟩,fun q hq=>((H0.out.2.2.1.below hbw0).ps q (cC hq)),kT,fun f hf=>⟨(hfxs f hf).2.2,?_⟩,⟨?_,?_,?_⟩,hbw0,au _,?_⟩
    ·have:=(j10.lt k hk).2;omega
    ·have:=(hfxs f hf).1;omega
    ·omega
    ·omega
    ·omega
    ·rintro k (rfl|rfl)<;>omega
  have HI:=ac (ae hI0 (ae hb0 (ae kS (ae kA (ae kX (ae hrst (ae hpd0 (ae hbw0 (ae j7 hfx)))))))));clear hI0 kS kA kX kT hrst hpd0 hbw0 hfx j1 j2 j3 j4 j5 j6 j7 j8 j9 j10;generalize ha0:Act.mk _ []=a0;rename_i KK hKK0;have HKK:=ac hKK0;clear hKK0;have hne12:∀f∈fx,f.1≠b12∧f.1≠b13∧f.2.1≠94:=fun f hf=>⟨by have:=(hfxs f hf).1;omega,by have:=(hfxs f hf).1;omega,(hfxs f hf).2.1⟩
  have hne14:∀f∈fx,f.1≠wc.heap.size:=fun f hf=>by have:=(hfxs f hf).1;omega
  have hws:w.heap.size≤W0.heap.size:=HI.out.2.2.2.2.2.2.2.1.size;have hO:∀X zs Y tl,OwnFrom W0.heap.size (fun (_:Unit) W=>uG w W0.heap.size fx b12 b13 wc.heap.size X zs Y tl W):=fun X zs Y tl _ W W' row h hg hr=>h.grown hg (fun k hk=>⟨by have:=(hr k hk).1;omega,(hr k hk).2⟩)
  have HR2:∀(D:Nat) (zs:List PV) (Y:Lx) (T:Nat) (X:Nat→Prop) (W:World),W0.heap.size≤D→uG w W0.heap.size fx b12 b13 wc.heap.size X zs Y (T:Int) W→W.heap[D]? = some (.deferred (some [])) →
      (T=xs.length∧jM zs=gI ed.new∧Y=(jf ed.new).2∧oX ed 0)∨(T<xs.length∧(∃j,Mt ed T j∧jM zs=(gI ed.new).take j)∧oX ed (xs.length-T)) →
      KK {a0 with defers:={target:=.collected D,args:=#[]}::a0.defers} W:=by
    intro D zs Y T X W hDW hI hd hT;have HT:=ac (ae hI (ae hd hT));have HO:=ac hO;have HNE:=ac (ae hne12 (ae hne14 (ae hs0 hws)));clear hI hd hT hO hne12 hne14 hs0 hws hfxs;subst ha0;refine HKK.out _ _ ?_;have hb14:wc.heap.size+4=W0.heap.size:=HNE.out.2.2.1.symm;have hW0b:w.heap.size+5≤W0.heap.size:=by omega
    have Hb14:=ac hb14;clear hb14;generalize wc.heap.size=b14 at HT HNE Hb14 hlt12 hlt13 ⊢;have hF:=HT.out.1.fx;rw[HI.out.2.2.2.2.2.2.2.2.2] at hF;have f1:=(hF _ (dF _)).1;replace f1:Bk W w.heap.size 62 #[.pointer (some ⟨g,0,none⟩)]:=f1;have p0:W.cell? ⟨w.heap.size,0,none⟩=some (.pointer (some ⟨g,0,none⟩)):=by rw[f1.cell];rfl
    have y3:W.cell? ⟨g,1,none⟩=some (.slice A xs.length c):=by rw[(H0.out.2.2.1.below HT.out.1.hb).bk.cell];rfl
    obtain⟨m0,m1⟩:=HT.out.1.tl.one;clear hF f1;obtain⟨tb,htb⟩:∃tb,decide ((T:Int)<(xs.length:Int))=tb:=⟨_,rfl⟩;dsimp only;go_wp2_with fail;go_quiet (fail);have hbq:=dX (ay W.heap.size W) nq;have hIq:=HT.out.1.below hbq;have hdq:(W.drewN nq).heap[D]? = some (.deferred (some [])):=HT.out.2.1;replace p0:=i4 hbq p0;replace y3:=i4 hbq y3;replace m0:=i4 hbq m0;generalize W.drewN nq=Wq at hIq hdq p0 y3 m0 ⊢;have hT0:=HT.out.2.2;clear HT m1 hbq;have HT:=ac (ae hIq (ae hdq hT0));clear hIq hdq hT0;go_upto_if 112 with fail
    go_cut [113] from 112 to 126 (fun s wx=>∃(zs:List PV) (Y:Lx),uG w W0.heap.size fx b12 b13 b14 X zs Y (T:Int) wx∧jM zs=gI ed.new∧Y=(jf ed.new).2∧wx.heap[D]? = some (.deferred (some [])))
    case first=>
      rcases HT.out.2.2 with ⟨hT,h1,h2,h3⟩|⟨hT,⟨j,h1,h2⟩,h3⟩
      ·obtain rfl:tb=false:=by rw[←htb];exact aE (by omega)
       have HZ:=ac (ae h1 h2);clear h1 h2 h3;go_wp2_with fail;go_meet;exact⟨zs,Y,HT.out.1,HZ.out.1,HZ.out.2,HT.out.2.1⟩
      ·obtain rfl:tb=true:=by rw[←htb];exact aG (by omega)
       obtain⟨t1,t2,t3⟩:=h1.tail;have hpt:jM (xs.drop T)=(gI ed.old).drop T:=by rw[←H0.out.2.2.2.2.1];simp[jM]
       have hD:=H0.out.2.2.1.below HT.out.1.hb;have hrw:=H0.out.2.2.2.1.next HT.out.1.hb;obtain⟨A1,c1,rfl⟩:=hD.pv.form;obtain⟨ga,oa,rfl⟩:∃ga oa,A=some ⟨ga,oa,none⟩:=by
         obtain⟨_,_,_,h5,_,_,_,h6⟩:=hrw;obtain⟨g',o',_,_,ha,_⟩:=h6 (by omega)
         cases h5;exact⟨g',o',ha⟩
       have hcl:=hrw.le.2.1;have hrd:=hrw.drop (aM hT);rw[EH] at hrd;have hyl:(xs.drop T).length=xs.length-T:=aZ;rw[←hyl] at hrd;have d2:Wq.cell? ⟨g,2,none⟩=some (.int .i64 (jf ed.old).2.aw):=by rw[hD.bk.cell];rfl
       have d3:Wq.cell? ⟨g,3,none⟩=some (.slice A1 (jf ed.old).2.pd.length c1):=by rw[hD.bk.cell];rfl
       have d4:Wq.cell? ⟨g,4,none⟩=some (.bool (jf ed.old).2.bd):=by rw[hD.bk.cell];rfl
       have hF:=HT.out.1.fx;rw[HI.out.2.2.2.2.2.2.2.2.2] at hF;have f4:=(hF _ (dJ _ (dJ _ (dJ _ (dF _))))).1;have f1:=(hF _ (dF _)).1;replace f1:Bk Wq w.heap.size 62 #[.pointer (some ⟨g,0,none⟩)]:=f1;replace f4:Bk Wq b9 3 #[.int .i64 ((ed.i.length:Int)-(ed.d.length:Int))]:=f4;obtain⟨m2,_⟩:=f4.one;obtain⟨lv,pv2,e1,e2,e3,e4,e5⟩:=HT.out.1.ex;obtain⟨A5,n5,c5,rfl⟩:=eA e1;obtain rfl:=ff e1;obtain⟨l0,_⟩:=e3.one;have hfit:∀q∈xs.drop T,ed.d.length≤q.t.fr∧ed.d.length≤q.t.to∧q.t.fr≤900∧q.t.to≤900:=fun q hq=>by
         have h4:(q.t,q.X)∈(gI ed.old).drop T:=by rw[←hpt];exact bZ.2 ⟨q,hq,rfl⟩
         have h5:=t3 _ h4;have h6:=iM ed.old 0 mZ _ (di h4);replace h5:ed.d.length≤q.t.fr∧ed.d.length≤q.t.to:=h5;replace h6:0≤q.t.fr∧q.t.fr<q.t.to∧q.t.to≤ed.old.length:=h6;omega
       have hsl:∀q∈xs.drop T,∃A n c,q.v=.slice A n c:=fun q hq=>by obtain⟨A',c',h⟩:=(hD.ps q (di hq)).form;exact⟨A',_,c',h⟩
       have hMv:=JA (xs.drop T) _ (c-T) ((ed.i.length:Int)-(ed.d.length:Int)) Wq.drew (by omega) (by omega) (by omega) hrd (fun q hq=>by have:=hfit q hq;exact⟨by omega,by omega,by omega,by omega,hsl q hq⟩);have one2:∀u∈iB ((xs.drop T).map (FA ((ed.i.length:Int)-(ed.d.length:Int)))),u.oneCell'=true:=sM (fun q hq=>by obtain⟨r,hr,rfl⟩:=bZ.1 hq;exact hsl r hr);have hml:((xs.drop T).map (FA ((ed.i.length:Int)-(ed.d.length:Int)))).length=(xs.drop T).length:=bE _;have hzl:zs.length≤900:=by
         have:=congrArg List.length h2
         rw[bz] at this;have h9:(gI ed.new).length≤ed.new.length-0:=sI ed.new 0 mZ;simp[jM] at this;omega
       rw[hyl] at hMv hml;obtain⟨ys,hys⟩:∃ys,ys=(xs.drop T).map (FA ((ed.i.length:Int)-(ed.d.length:Int))):=⟨_,rfl⟩;rw[←hys] at hMv one2 hml;have v5:(T:Int)≤(xs.length:Int):=by omega
       have v6:(0:Int)≤(T:Int):=by omega
       have v7:(xs.length:Int)≤(c:Int):=by omega
       have v8:¬c=T:=by omega
       have hmix:Tryz.prog.follows .mixedOrders=true:=by kernel_rfl
       have n12:b12≠b13:=i5 e3 e4 (by decide);have n13:¬b13=b12:=fun h=>n12 h.symm
       have HM:=ac (ae hMv (ae one2 (ae e1 (ae e3 (ae e4 (ae hD (ae f4 (ae hys (ae hml (ae e5 (ae e2 (ae h1 (ae h2 (ae h3 (ae t1 (ae t2 (ae hfit (ae hpt (ae hrd (ae hyl f1))))))))))))))))))));clear hMv one2 e1 e3 e4 hD f4 hys hml e5 e2 h1 h2 h3 t1 t2 t3 hfit hpt hrd hyl hF hrw hsl f1;go_wp2_with fail;obtain⟨S0,hS0⟩:∃S0:World→Prop,S0=fun w'=>w'.cell? ⟨w.heap.size,0,none⟩=some (.pointer (some ⟨g,0,none⟩))∧w'.cell? ⟨g,1,none⟩=some (.slice (some ⟨ga,oa,none⟩) xs.length c)∧w'.cell? ⟨g,2,none⟩=some (.int .i64 (jf ed.old).2.aw)∧w'.cell? ⟨g,3,none⟩=some (.slice A1 (jf ed.old).2.pd.length c1)∧w'.cell? ⟨g,4,none⟩=some (.bool (jf ed.old).2.bd)∧w'.cell? ⟨b14,0,none⟩=some (.int .i64 (T:Int))∧w'.cell? ⟨b9,0,none⟩=some (.int .i64 ((ed.i.length:Int)-(ed.d.length:Int))):=⟨_,rfl⟩
       refine wp_region_noPanic ?_;refine wp_region_held (S:=S0) hmix ?_;show wpAnyH _ _ _ _ _ _ _ _ Wq.drew;have hS1:S0 Wq.drew:=by rw[hS0];exact⟨p0,y3,d2,d3,d4,m0,m2⟩
       have tS:∀w',S0 w'→_:=fun w' h=>by rw[hS0] at h;exact h
       refine tk 1 (.pointer (some ⟨g,0,none⟩)) hS1 (fun w' hS=>?_) ?_
       ·obtain⟨c0,c1,c2,c3,c4,c5,c6⟩:=tS w' hS;go_simp
       try simp only[Act.put,am,ai,aj,aa,an,ar]
       refine tk 2 (.pointer (some ⟨g,0,none⟩)) hS1 (fun w' hS=>?_) ?_
       ·go_simp
       try simp only[Act.put,am,ai,aj,aa,an,ar]
       refine tk 3 (.pointer (some ⟨g,1,none⟩)) hS1 (fun w' hS=>?_) ?_
       ·go_simp
       try simp only[Act.put,am,ai,aj,aa,an,ar]
       refine tk 4 (.slice (some ⟨ga,oa,none⟩) xs.length c) hS1 (fun w' hS=>?_) ?_
       ·obtain⟨c0,c1,c2,c3,c4,c5,c6⟩:=tS w' hS;go_simp
       try simp only[Act.put,am,ai,aj,aa,an,ar]
       refine tk 5 (.int .i64 (T:Int)) hS1 (fun w' hS=>?_) ?_
       ·obtain⟨c0,c1,c2,c3,c4,c5,c6⟩:=tS w' hS;go_simp
       try simp only[Act.put,am,ai,aj,aa,an,ar]
       refine tk 6 (.slice (some ⟨ga,oa+T*7,none⟩) (xs.length-T) (c-T)) hS1 (fun w' hS=>?_) ?_
       ·go_simp
       try simp only[Act.put,am,ai,aj,aa,an,ar]
       refine tk 7 (.int .i64 ((ed.i.length:Int)-(ed.d.length:Int))) hS1 (fun w' hS=>?_) ?_
       ·obtain⟨c0,c1,c2,c3,c4,c5,c6⟩:=tS w' hS;go_simp
       try simp only[Act.put,am,ai,aj,aa,an,ar]
       refine tk 10 (.pointer (some ⟨g,0,none⟩)) hS1 (fun w' hS=>?_) ?_
       ·obtain⟨c0,c1,c2,c3,c4,c5,c6⟩:=tS w' hS;go_simp
       try simp only[Act.put,am,ai,aj,aa,an,ar]
       refine tk 11 (.pointer (some ⟨g,0,none⟩)) hS1 (fun w' hS=>?_) ?_
       ·go_simp
       try simp only[Act.put,am,ai,aj,aa,an,ar]
       refine tk 12 (.pointer (some ⟨g,2,none⟩)) hS1 (fun w' hS=>?_) ?_
       ·go_simp
       try simp only[Act.put,am,ai,aj,aa,an,ar]
       refine tk 13 (.agg #[.int .i64 (jf ed.old).2.aw,.slice A1 (jf ed.old).2.pd.length c1,.bool (jf ed.old).2.bd]) hS1 (fun w' hS=>?_) ?_
       ·obtain⟨c0,c1,c2,c3,c4,c5,c6⟩:=tS w' hS;go_simp
       try simp only[Act.put,am,ai,aj,aa,an,ar]
       have HS0:=ac hS0;clear hS0 tS;have hSet:∀w' i v,S0 w'→S0 (w'.setCell ⟨b12,i,none⟩ v):=fun w' i v h=>by
         rw[HS0.out] at h ⊢;obtain⟨c0,c1,c2,c3,c4,c5,c6⟩:=h;exact⟨gw c0 (by omega),gw c1 (by omega),gw c2 (by omega),gw c3 (by omega),gw c4 (by omega),gw c5 (by omega),gw c6 (by omega)⟩
       have hSet3:∀w' i v,S0 w'→S0 (w'.setCell ⟨b13,i,none⟩ v):=fun w' i v h=>by
         rw[HS0.out] at h ⊢;obtain⟨c0,c1,c2,c3,c4,c5,c6⟩:=h;exact⟨gw c0 (by omega),gw c1 (by omega),gw c2 (by omega),gw c3 (by omega),gw c4 (by omega),gw c5 (by omega),gw c6 (by omega)⟩
       refine wpAnyH_all (rs:=[0,8]) (by decide +kernel) (by simp) (eR rfl (by rfl) (fun Kc hK=>?_) (eR rfl (by rfl) (fun Kc hK=>?_) (fj (S:=S0))))
       rotate_left
       go_simp;go_at_call 59;with_reducible refine HM.out.1.mono ?_
       rintro e w5 ⟨v5,rfl,ho5,hb5⟩;have p0:=i4 hb5 p0;have y3:=i4 hb5 y3;have d2:=i4 hb5 d2;have d3:=i4 hb5 d3;have d4:=i4 hb5 d4;have m0:=i4 hb5 m0;have m2:=i4 hb5 m2;have l0:=i4 hb5 l0;have H5:=ac (ae ho5 hb5);clear ho5 hb5;have hS5:S0 w5:=by rw[HS0.out];exact⟨p0,y3,d2,d3,d4,m0,m2⟩
       refine hK _ _ hS5 ?_;clear hK Kc;try simp only[Act.put,am,ai,aj,aa,an,ar]
       refine wpAnyH_all (rs:=[0]) (by decide +kernel) (by simp) (eR rfl (by rfl) (fun Kc hK=>?_) (fj (S:=S0)));go_simp;refine hK _ _ hS5 ?_;clear hK Kc;try simp only[Act.put,am,ai,aj,aa,an,ar]
       rotate_left
       go_simp;refine hK _ _ hS1 ?_;clear hK Kc;try simp only[Act.put,am,ai,aj,aa,an,ar]
       refine wpAnyH_all (rs:=[8]) (by decide +kernel) (by simp) (eR rfl (by rfl) (fun Kc hK=>?_) (fj (S:=S0)));go_simp;go_at_call 59;with_reducible refine HM.out.1.mono ?_
       rintro e w5 ⟨v5,rfl,ho5,hb5⟩;have p0:=i4 hb5 p0;have y3:=i4 hb5 y3;have d2:=i4 hb5 d2;have d3:=i4 hb5 d3;have d4:=i4 hb5 d4;have m0:=i4 hb5 m0;have m2:=i4 hb5 m2;have l0:=i4 hb5 l0;have H5:=ac (ae ho5 hb5);clear ho5 hb5;have hS5:S0 w5:=by rw[HS0.out];exact⟨p0,y3,d2,d3,d4,m0,m2⟩
       refine hK _ _ hS5 ?_;clear hK Kc;try simp only[Act.put,am,ai,aj,aa,an,ar]
       all_goals
         refine wpAnyH_all (rs:=[9]) (by decide +kernel) (by simp) (eR rfl (by rfl) (fun Kc hK=>?_) (fj (S:=S0)));refine iF (.tmp 113) (.tmp 121) 82 rfl w.heap.size 94 i0 _ 7 72 Tryz.underlying82 hi0 hz0 hz1 hz2 rfl (by decide) (.slice A5 zs.length c5) zs.length (iB zs) rfl (eC HM.out.2.2.1 ((ay _ Wq).drew.trans H5.out.2)) v5 (xs.length-T) w5.heap.size (iB ys) rfl (Rd.of_own H5.out.1) HM.out.2.1 (by unfold maxLen;omega) (by omega) (by have:=HT.out.1.hb.size;have:=H5.out.2.size;simp at this;omega) ?_;intro v3 w3 hown3 hg3 hv3;have hbz:=(ay _ Wq).drew.trans H5.out.2;have row5:=eC HM.out.2.2.1 hbz;have r1:=Bk.overrow (HM.out.2.2.2.2.2.2.2.2.2.2.2.2.2.2.2.2.2.2.2.2.below hbz HM.out.2.2.2.2.2.2.2.2.2.2.2.2.2.2.2.2.2.2.2.2.lt) row5 hg3 (by decide);have r2:=Bk.overrow (HM.out.2.2.2.2.2.1.bk.below hbz HM.out.2.2.2.2.2.1.bk.lt) row5 hg3 (by decide);have r3:=Bk.overrow (HT.out.1.tl.below hbz HT.out.1.tl.lt) row5 hg3 (by decide);have r4:=Bk.overrow (HM.out.2.2.2.2.2.2.1.below hbz HM.out.2.2.2.2.2.2.1.lt) row5 hg3 (by decide);have r5:=Bk.overrow (HM.out.2.2.2.1.below hbz HM.out.2.2.2.1.lt) row5 hg3 (by decide);have r6:=Bk.overrow (HM.out.2.2.2.2.1.below hbz HM.out.2.2.2.2.1.lt) row5 hg3 (by decide);have p0:w3.cell? ⟨w.heap.size,0,none⟩=some (.pointer (some ⟨g,0,none⟩)):=by rw[r1.cell];rfl
         have y3:w3.cell? ⟨g,1,none⟩=some (.slice (some ⟨ga,oa,none⟩) xs.length c):=by rw[r2.cell];rfl
         have d2:w3.cell? ⟨g,2,none⟩=some (.int .i64 (jf ed.old).2.aw):=by rw[r2.cell];rfl
         have d3:w3.cell? ⟨g,3,none⟩=some (.slice A1 (jf ed.old).2.pd.length c1):=by rw[r2.cell];rfl
         have d4:w3.cell? ⟨g,4,none⟩=some (.bool (jf ed.old).2.bd):=by rw[r2.cell];rfl
         obtain⟨m0,_⟩:=r3.one;obtain⟨m2,_⟩:=r4.one;obtain⟨o0,o1⟩:=r5.one;obtain⟨o2,o3,o4,o5,o6,o7⟩:=r6.three;obtain⟨A3,n3,c3,rfl⟩:=eA hown3;have H3:=ac (ae hown3 (ae hg3 (ae hv3 hbz)));clear hown3 hg3 hv3 hbz row5 r1 r2 r3 r4 r5 r6;have hS3:S0 w3:=by rw[HS0.out];exact⟨p0,y3,d2,d3,d4,m0,m2⟩
         refine hK _ _ hS3 ?_;clear hK Kc;try simp only[Act.put,am,ai,aj,aa,an,ar]
         refine wpAnyH_all (rs:=[14]) (by decide +kernel) (by simp) (eR rfl (by rfl) (fun Kc hK=>?_) (fj (S:=S0)));go_simp;refine hK _ _ (by with_reducible refine hSet _ _ _ ?_;with_reducible assumption) ?_;clear hK Kc;try simp only[Act.put,am,ai,aj,aa,an,ar]
         refine wpAnyH_all (rs:=[15]) (by decide +kernel) (by simp) (eR rfl (by rfl) (fun Kc hK=>?_) (fj (S:=S0)));go_simp;refine hK _ _ (by with_reducible refine hSet3 _ _ _ (hSet3 _ _ _ (hSet3 _ _ _ (hSet _ _ _ ?_)));with_reducible assumption) ?_;clear hK Kc;try simp only[Act.put,am,ai,aj,aa,an,ar]
         refine wpAnyH_done (by decide +kernel) ?_ _;refine NoPanic.normal ?_;go_wp2_with fail;go_meet;obtain⟨_,_,_,e3,_,hD,_,hys,hml,_,_,_,h2,_,t1,t2,hfit,hpt,_,_,_⟩:=HM.out;obtain⟨hown3,hg3,hv3,hbz⟩:=H3.out;have hf:=B7 (N:=W0.heap.size) (ys:=ys) (Y':=(jf ed.old).2) (u:=.slice A1 (jf ed.old).2.pd.length c1) hbz HNE.out.1 (by omega) (by omega) (by have:=Hb14.out;omega) (by have:=Hb14.out;omega) HT.out.1 e3 (fun q hq=>by
           rw[hys] at hq;obtain⟨r,hr,rfl⟩:=bZ.1 hq;exact hD.ps r (di hr)) hD.pv hg3 (by rw[hml];exact hown3) hv3 _ rfl
         refine⟨zs++ys,(jf ed.old).2,hf.2.2.2,?_,t2.symm,hf.1.2 D _ hDW HT.out.2.1 rfl⟩;have h9:jM ys=(gI ed.new).drop j:=by
           rw[t1,←hpt,hys];unfold jM;rw[dA,dA];refine cw fun q hq=>?_
           obtain⟨g1,g2,_⟩:=hfit q hq;show (Tk.mk q.t.kd ((q.t.fr:Int)+_).toNat ((q.t.to:Int)+_).toNat q.t.op,q.X)=(Tk.mk q.t.kd (q.t.fr-_+_) (q.t.to-_+_) q.t.op,q.X);rw[show ((q.t.fr:Int)+((ed.i.length:Int)-(ed.d.length:Int))).toNat=q.t.fr-ed.d.length+ed.i.length by omega,show ((q.t.to:Int)+((ed.i.length:Int)-(ed.d.length:Int))).toNat=q.t.to-ed.d.length+ed.i.length by omega]
         have h10:jM (zs++ys)=jM zs++jM ys:=by unfold jM;rw[bG]
         rw[h10,h9,h2,cE]
    clear p0 y3 m0;obtain⟨zs,Y,hI,h1,h2,hd⟩:=hcut;have hF:=hI.fx;rw[HI.out.2.2.2.2.2.2.2.2.2] at hF;have f1:=(hF _ (dF _)).1;replace f1:Bk wc w.heap.size 62 #[.pointer (some ⟨g,0,none⟩)]:=f1;have p0:wc.cell? ⟨w.heap.size,0,none⟩=some (.pointer (some ⟨g,0,none⟩)):=by rw[f1.cell];rfl
    have y3:wc.cell? ⟨g,1,none⟩=some (.slice A xs.length c):=by rw[(H0.out.2.2.1.below hI.hb).bk.cell];rfl
    obtain⟨m0,m1⟩:=hI.tl.one;have HZ:=ac (ae hI (ae h1 (ae h2 hd)));have vw2:IntKind.i64.wrap ((xs.length:Int)-(T:Int))=(xs.length:Int)-(T:Int):=aO _ (by rcases HT.out.2.2 with h|h<;>omega);clear hI h1 h2 hd hF f1;go_wp2_with fail
    go_region_held3 (fun w'=>w'.cell? ⟨w.heap.size,0,none⟩=some (.pointer (some ⟨g,0,none⟩))∧w'.cell? ⟨g,1,none⟩=some (.slice A xs.length c)∧w'.cell? ⟨b14,0,none⟩=some (.int .i64 (T:Int)))
     (first
      | with_reducible exact⟨p0,y3,m0⟩
      | (try dsimp only
         repeat' (first
           | with_reducible assumption
           | with_reducible apply ae
           | with_reducible refine iy ?_
           | with_reducible refine gw ?_ (by omega)
           | with_reducible refine ms ?_)))
     (fail)
    have hb18:Below wc.heap.size wc (wc.alloc (.cells #[.int .i64 (K:Int),.int .i64 ((xs.length:Int)-(T:Int))] 68)).drew:=((ay _ wc).alloc (au _) _).drew;have k18:Bk (wc.alloc (.cells #[.int .i64 (K:Int),.int .i64 ((xs.length:Int)-(T:Int))] 68)).drew wc.heap.size 68 #[.int .i64 (K:Int),.int .i64 ((xs.length:Int)-(T:Int))]:=Bk.drew (Bk.new wc _ _);generalize (wc.alloc (.cells #[.int .i64 (K:Int),.int .i64 ((xs.length:Int)-(T:Int))] 68)).drew=W18 at hb18 k18 ⊢;have hI:=HZ.out.1.below hb18;have hD18:=(H0.out.2.2.1.below hI.hb).bk;have hF:=hI.fx;rw[HI.out.2.2.2.2.2.2.2.2.2] at hF;have f1:=(hF _ (dF _)).1;have f3:=(hF _ (dJ _ (dJ _ (dF _)))).1;replace f1:Bk W18 w.heap.size 62 #[.pointer (some ⟨g,0,none⟩)]:=f1;replace f3:Bk W18 (w.heap.size+1+1) 68 #[.int .i64 0,.int .i64 0]:=f3;obtain⟨lv',pv',e1,e2,e3,e4,e5⟩:=hI.ex;obtain⟨A5,n5,c5,rfl⟩:=eA e1;obtain⟨A6,c6,rfl⟩:=e5.form;have p0:W18.cell? ⟨w.heap.size,0,none⟩=some (.pointer (some ⟨g,0,none⟩)):=by rw[f1.cell];rfl
    obtain⟨l0,_⟩:=e3.one;obtain⟨x3,x4,x5,_⟩:=e4.three;obtain⟨d1,d2,d3,d4,d6,d7,d8,d9⟩:=hD18.five;have d0:W18.cell? ⟨g,0,none⟩=some (.string ⟨ed.old.toArray⟩):=by rw[hD18.cell];rfl
    have d5:=hD18.frozen 0;have H18:=ac (ae hb18 (ae k18 (ae hI (ae hD18 (ae f3 (ae e1 e5))))));clear hb18 k18 hI hD18 hF f1 f3 e1 e2 e3 e4 e5;go_wp2_with fail
    go_region_held3 (fun w'=>w'.cell? ⟨w.heap.size,0,none⟩=some (.pointer (some ⟨g,0,none⟩))∧w'.cell? ⟨b12,0,none⟩=some (.slice A5 n5 c5)∧w'.cell? ⟨b13,0,none⟩=some (.int .i64 Y.aw)∧w'.cell? ⟨b13,1,none⟩=some (.slice A6 Y.pd.length c6)∧w'.cell? ⟨b13,2,none⟩=some (.bool Y.bd))
     (first
      | with_reducible exact⟨p0,l0,x3,x4,x5⟩
      | (try dsimp only
         repeat' (first
           | with_reducible assumption
           | with_reducible apply ae
           | with_reducible refine gw ?_ (by omega)
           | with_reducible refine ms ?_)))
     (fail)
    obtain⟨hb18,k18,hI,hD18,f3,e1,e5⟩:=H18.out;have hgD:g≠D:=by have:=HNE.out.2.2.2;omega
    have hgs:=eJ (eJ (eJ (eJ (eJ (fA W18 (some g)) 0 (.string ⟨ed.new.toArray⟩)) 1 (.slice A5 n5 c5)) 2 (.int .i64 Y.aw)) 3 (.slice A6 Y.pd.length c6)) 4 (.bool Y.bd);have kc:=(((((KC.refl [87,68] W18).set hD18 (by decide) 0 (.string ⟨ed.new.toArray⟩)).set (hD18.set 0 _) (by decide) 1 (.slice A5 n5 c5)).set ((hD18.set 0 _).set 1 _) (by decide) 2 (.int .i64 Y.aw)).set (((hD18.set 0 _).set 1 _).set 2 _) (by decide) 3 (.slice A6 Y.pd.length c6)).set ((((hD18.set 0 _).set 1 _).set 2 _).set 3 _) (by decide) 4 (.bool Y.bd);have kD:=((((hD18.set 0 (.string ⟨ed.new.toArray⟩)).set 1 (.slice A5 n5 c5)).set 2 (.int .i64 Y.aw)).set 3 (.slice A6 Y.pd.length c6)).set 4 (.bool Y.bd);have hdw:=ay (((((W18.setCell ⟨g,0,none⟩ (.string ⟨ed.new.toArray⟩)).setCell ⟨g,1,none⟩ (.slice A5 n5 c5)).setCell ⟨g,2,none⟩ (.int .i64 Y.aw)).setCell ⟨g,3,none⟩ (.slice A6 Y.pd.length c6)).setCell ⟨g,4,none⟩ (.bool Y.bd)).heap.size (((((W18.setCell ⟨g,0,none⟩ (.string ⟨ed.new.toArray⟩)).setCell ⟨g,1,none⟩ (.slice A5 n5 c5)).setCell ⟨g,2,none⟩ (.int .i64 Y.aw)).setCell ⟨g,3,none⟩ (.slice A6 Y.pd.length c6)).setCell ⟨g,4,none⟩ (.bool Y.bd));generalize ((((W18.setCell ⟨g,0,none⟩ (.string ⟨ed.new.toArray⟩)).setCell ⟨g,1,none⟩ (.slice A5 n5 c5)).setCell ⟨g,2,none⟩ (.int .i64 Y.aw)).setCell ⟨g,3,none⟩ (.slice A6 Y.pd.length c6)).setCell ⟨g,4,none⟩ (.bool Y.bd)=W19 at hgs kc kD hdw ⊢;have hws:w.heap.size≤wc.heap.size:=HZ.out.1.hb.size;have hb20:=hdw.drew;have k20:=(k18.grown hgs (fun e=>by injection e with e;omega)).drew;have f20:=(f3.grown hgs (fun e=>by injection e with e;omega)).drew;have kD20:=kD.drew;have r20:=eC (e1.kept hgs (.inr (fun e=>eP e1 hD18 (by decide) e))) hb20;have kc20:=kc.trans (KC.of_below hb20);have hbl:∀k,k<W18.heap.size→k≠g→W19.drew.heap[k]? = W18.heap[k]? := fun k hk hne=>hgs.block k hk (fun e=>by injection e with e;omega)
    have hsz:W18.heap.size≤W19.drew.heap.size:=hgs.size;have hot:W19.drew.os=W18.os∧W19.drew.tape=W18.tape∧W19.drew.output=W18.output:=⟨hgs.1,hgs.2,hgs.3⟩;generalize W19.drew=W20 at k20 f20 kD20 r20 kc20 hbl hsz hot ⊢;have k0:W20.cell? ⟨wc.heap.size,0,none⟩=some (.int .i64 (K:Int)):=by rw[k20.cell];rfl
    have k1:W20.cell? ⟨wc.heap.size,1,none⟩=some (.int .i64 ((xs.length:Int)-(T:Int))):=by rw[k20.cell];rfl
    have z0:W20.cell? ⟨w.heap.size+1+1,0,none⟩=some (.int .i64 0):=by rw[f20.cell];rfl
    have z1:W20.cell? ⟨w.heap.size+1+1,1,none⟩=some (.int .i64 0):=by rw[f20.cell];rfl
    have z2:=f20.frozen 0;have z3:=f20.frozen 1;have HY:=ac (ae f20 (ae kD20 (ae r20 (ae kc20 (ae hbl (ae hsz (ae hot (ae hI e5))))))));clear hb18 k18 hI hD18 f3 e1 e5 hgs kc kD hdw hb20 k20 f20 kD20 r20 kc20 hbl hsz hot p0 l0 x3 x4 x5 d0 d1 d2 d3 d4 d5 d6 d7 d8 d9;go_wp2_with fail;obtain⟨f20,kD20,r20,kc20,hbl,hsz,hot,hI,e5⟩:=HY.out;have hTT:T≤xs.length∧oX ed (xs.length-T):=by
      rcases HT.out.2.2 with ⟨h,_,_,h3⟩|⟨h,_,h3⟩
      ·exact⟨by omega,by rw[h,dB];exact h3⟩
      ·exact⟨by omega,h3⟩
    have hgF:=eJ (eJ (fA W20 (some (w.heap.size+1+1))) 0 (.int .i64 (K:Int))) 1 (.int .i64 ((xs.length:Int)-(T:Int)));have kF:=(f20.set 0 (.int .i64 (K:Int))).set 1 (.int .i64 ((xs.length:Int)-(T:Int)));have kcF:=(kc20.set f20 (by decide) 0 (.int .i64 (K:Int))).set (f20.set 0 _) (by decide) 1 (.int .i64 ((xs.length:Int)-(T:Int)));generalize (W20.setCell ⟨w.heap.size+1+1,0,none⟩ (.int .i64 (K:Int))).setCell ⟨w.heap.size+1+1,1,none⟩ (.int .i64 ((xs.length:Int)-(T:Int)))=WF at hgF kF kcF ⊢;have kDF:=kD20.grown hgF (fun e=>by injection e with e;omega);have rF:=r20.kept hgF (.inr (fun e=>eP r20 f20 (by decide) e));have hDl:D<wc.heap.size:=(aJ.1 HZ.out.2.2.2).1;have hwz:=H18.out.1.size;have hNz:=HNE.out.2.2.2;have h18:=(H18.out.1.block D hDl).trans HZ.out.2.2.2;have h4:WF.heap[D]? = some (.deferred (some [])):=(hgF.block D (by omega) (fun e=>by injection e with e;omega)).trans ((hbl D (by omega) (by omega)).trans h18);refine⟨by simp,.inl ⟨_,_,rfl,run_takeDeferred h4,?_⟩⟩;have kF2:Bk (WF.putObj D (.deferred none)) (w.heap.size+1+1) 68 _:=(World.putObj_heap_other (by omega)).trans kF;have c0:(WF.putObj D (.deferred none)).cell? ⟨w.heap.size+1+1,0,none⟩=some (.int .i64 (K:Int)):=by rw[kF2.cell];rfl
    have c1:(WF.putObj D (.deferred none)).cell? ⟨w.heap.size+1+1,1,none⟩=some (.int .i64 ((xs.length:Int)-(T:Int))):=by rw[kF2.cell];rfl
    have hg2:=grownBy_putObj' WF D (.deferred none);have hne:∀k,some D=some k→∃o,WF.heap[k]? = some o∧o.isCells=false:=fun k hk=>by injection hk with hk;subst hk;exact⟨_,h4,rfl⟩
    refine⟨.tuple #[.agg #[.int .i64 (K:Int),.int .i64 ((xs.length:Int)-(T:Int))],.int .i64 0],by simp[results,Tryz.results33,go_sem,c0,c1],xs.length-T,hTT.2,by rw[show ((xs.length-T:Nat):Int)=(xs.length:Int)-(T:Int) by omega],⟨zs,.slice A5 n5 c5,.slice A6 Y.pd.length c6,HZ.out.2.1,⟨?_,fun q hq=>?_,?_⟩,?_⟩,?_⟩
    ·rw[←HZ.out.2.2.1]
     exact(World.putObj_heap_other (by omega)).trans kDF
    ·exact((hI.ps q hq).kc kcF (by decide)).grownX hg2 hne
    ·rw[←HZ.out.2.2.1]
     exact(e5.kc kcF (by decide)).grownX hg2 hne
    ·obtain rfl:=ff r20;exact Rt.of_own (rF.kept hg2 (.inr (fun e=>by have:=gJ rF e h4;cases this)))
    ·have hb:=hI.hb;have hfz:=hgF.size;refine⟨(show WF.os=w.os from hgF.1.trans (hot.1.trans hb.1)),(show WF.tape=w.tape from hgF.2.trans (hot.2.1.trans hb.2)),(show WF.output=w.output from hgF.3.trans (hot.2.2.trans hb.3)),aA hb.size (aA hsz (aA hfz hg2.size)),fun k hk hkn=>?_⟩;have hkg:k≠g:=fun e=>hkn (by rw[e])
     exact(World.putObj_heap_other (by omega)).trans ((hgF.block k (by have:=hb.size;omega) (fun e=>by injection e with e;omega)).trans ((hbl k (by have:=hb.size;omega) hkg).trans (hb.block k hk)))
  refine(wpIn_wide (n:=5)).1 ?_
  refine sa (Ti:=zi) (by omega) (X0:=fun k=>k=wc.heap.size+1+1∨k=wc.heap.size+1+1+1) (by rintro k (rfl|rfl)<;>omega) (gf:=70) (lb:=#[.pointer (some ⟨wc.heap.size+1+1,0,none⟩),.pointer (some ⟨wc.heap.size+1,0,none⟩),.pointer (some ⟨wc.heap.size+1+1+1,0,none⟩)]) (by subst ha0;rfl) (enters_of Tryz.func70 (by kernel_rfl) rfl)
    (yL (wc.heap.size+1+1) (wc.heap.size+1) (wc.heap.size+1+1+1) ed.new x0 Z0 (.slice A7 Z0.pd.length c7) W0 hl' HI.out.2.2.2.2.2.1.2.2 HI.out.2.2.2.2.2.2.1 HI.out.2.2.1 HI.out.2.2.2.1 HI.out.2.2.2.2.1 (HI.out.2.2.2.2.2.2.2.2.1.next HI.out.2.1) (by omega)) (fun h k=>h.trans k) (fun W l o o' hl h1 h2 h3=>KC.put W l o o' h1 h2) (ay _ _) (fun _=>rfl)
    (fun X pre W=>uG w W0.heap.size fx b12 b13 wc.heap.size X (xs.take K++pre) (mq Z0 pre) (xs.length:Int) W∧∀j,j<K+pre.length→∀i,¬Mt ed i j)
    (fun cd X prq W=>cd=.exit 0∧∃(pre:List PV) (q:PV) (n:Nat),prq=pre++[q]∧uG w W0.heap.size fx b12 b13 wc.heap.size X (xs.take K++pre) (mq Z0 pre) (n:Int) W∧Mt ed n (K+pre.length)∧(∀j,j<K+pre.length→∀i,¬Mt ed i j)∧AX ed.new x0 Z0 (pre++[q]))
    ?fits ?fitsx ?own ?ownx
    ⟨by simpa [mq] using HI.out.1,?base⟩
    (fun q a' W=>Rt W 120 2 q.v q.X.pd.length (fQ q.X.pd)∧Rt W 120 2 q.u q.Y.pd.length (fQ q.Y.pd)∧∃b1 b2 v,Bk W b1 94 (uq q).toArray∧Bk W b2 85 #[.int .i64 q.Y.aw,q.u,.bool q.Y.bd]∧(W.cell? ⟨b12,0,none⟩=some v∧v.ownBlock≠some b1∧b2≠b13)∧a'={tmps:=(((a0.tmps.setIfInBounds 66 (.agg (uq q).toArray)).setIfInBounds 67 (.agg #[.int .i64 q.Y.aw,q.u,.bool q.Y.bd])).setIfInBounds 15 (.pointer (some ⟨b1,0,none⟩))).setIfInBounds 16 (.pointer (some ⟨b2,0,none⟩)),defers:=[]})
    ?ownA ?assign ?body ?done ?stop
  case fits=>exact fun X pre A B h hx hk=>⟨h.1.fits hx hk,h.2⟩
  case fitsx=>
    rintro c X pre A B ⟨h0,pre',q,n,h1,h2,h3⟩ hx hk;exact⟨h0,pre',q,n,h1,h2.fits hx hk,h3⟩
  case own=>exact fun X pre W W' row h hg hr=>⟨hO X _ _ _ () W W' row h.1 hg hr,h.2⟩
  case ownx=>
    rintro c X pre W W' row ⟨h0,pre',q,n,h1,h2,h3⟩ hg hr;exact⟨h0,pre',q,n,h1,hO X _ _ _ () W W' row h2 hg hr,h3⟩
  case base=>
    intro j hj i;rw[H0.out.2.2.2.2.2.1] at hj;exact ed.nohead j (by simpa using hj) i
  case ownA=>
    rintro q a' s W W' row ⟨h0,h1,b1,b2,v,h2,h3,⟨h4,h5⟩,rfl⟩ hg hr;have hB:∀g t cs,Bk W g t cs→Bk W' g t cs:=fun g t cs h=>h.grown hg (fun e=>by
      obtain⟨_,o,ho,hc⟩:=hr _ e.symm;rw[show W.heap[g]? = _ from h] at ho
      cases ho
      cases hc)
    exact⟨h0.grownX hg (fun k hk=>(hr k hk).2),h1.grownX hg (fun k hk=>(hr k hk).2),b1,b2,v,hB _ _ _ h2,hB _ _ _ h3,⟨pH h4 hg (fun k hk=>(hr k hk).2),h5⟩,rfl⟩
  case assign=>
    rintro l' X pre ⟨qt,qX,qv,qY,qu⟩ W K2 hI hSt hD hK;obtain⟨hD1,hD2⟩:=hD;replace hD1:Rt W 120 2 qv qX.pd.length (fQ qX.pd):=hD1;replace hD2:Rt W 120 2 qu qY.pd.length (fQ qY.pd):=hD2;obtain⟨Av,cv,rfl⟩:=hD1.form;obtain⟨Au,cu,rfl⟩:=hD2.form;subst ha0;gi_wp2;obtain⟨lv,pv2,hrow,hnx,hbl,_⟩:=hI.1.ex;have hb:Below W.heap.size W ((W.alloc (.cells (uq ⟨qt,qX,.slice Av qX.pd.length cv,qY,.slice Au qY.pd.length cu⟩).toArray 94)).alloc (.cells #[.int .i64 qY.aw,.slice Au qY.pd.length cu,.bool qY.bd] 85)):=((ay _ W).alloc (au _) _).alloc (by simp) _;refine hK _ _ (ig hb) (KC.of_below hb) (fun k hk=>hb.block k (hI.1.xb k hk).2) ⟨hI.1.below hb,hI.2⟩ ?_;exact⟨hD1.next hb,hD2.next hb,W.heap.size,W.heap.size+1,lv,(Bk.new W _ _).alloc _,fB W _ _ _ _,⟨iy (iy (by rw[hbl.cell];rfl)),fun e=>by have:=(hrow.lt _ e).2;omega,by have:=hI.1.hN;omega⟩,rfl⟩
  case body=>
    rintro l' X pre ⟨qt,qX,qv,qY,qu⟩ a' W hl1 hl2 ⟨hI,hnm⟩ ⟨hr1,hr2,b1,b2,v1,k1,k2,⟨hv1,hv2,hv3⟩,rfl⟩ hSt;have hget:=MO H0.out.2.2.2.2.2.1 HR.out.2 hSt;have hlen:=hSt.len;simp only[aD,bU] at hlen;have hmem:=iM ed.new 0 mZ _ (aI hget);replace hmem:qt.fr<qt.to∧qt.to≤ed.new.length:=hmem.2;replace hr1:Rt W 120 2 qv qX.pd.length (fQ qX.pd):=hr1;replace hr2:Rt W 120 2 qu qY.pd.length (fQ qY.pd):=hr2;obtain⟨Av,cv,rfl⟩:=hr1.form;obtain⟨Au,cu,rfl⟩:=hr2.form;replace k1:Bk W b1 94 #[.int .i64 (qt.kd:Int),.int .i64 (qt.fr:Int),.int .i64 (qt.to:Int),.bool qt.op,.int .i64 qX.aw,.slice Av qX.pd.length cv,.bool qX.bd]:=k1;replace k2:Bk W b2 85 #[.int .i64 qY.aw,.slice Au qY.pd.length cu,.bool qY.bd]:=k2;have hF:=hI.fx;rw[HI.out.2.2.2.2.2.2.2.2.2] at hF;have f1:=(hF _ (dF _)).1;have f2:=(hF _ (dJ _ (dF _))).1;have f4:=(hF _ (dJ _ (dJ _ (dJ _ (dF _))))).1;replace f1:Bk W w.heap.size 62 #[.pointer (some ⟨g,0,none⟩)]:=f1;replace f2:Bk W (w.heap.size+1) 39 #[.int .i64 (ed.a.length:Int),.string ⟨ed.d.toArray⟩,.string ⟨ed.i.toArray⟩]:=f2;replace f4:Bk W b9 3 #[.int .i64 ((ed.i.length:Int)-(ed.d.length:Int))]:=f4;have p0:W.cell? ⟨w.heap.size,0,none⟩=some (.pointer (some ⟨g,0,none⟩)):=by rw[f1.cell];rfl
    obtain⟨q0,q1,q2,_⟩:=f2.three;obtain⟨s0,s1,s2,s3,s4,s5,s6⟩:=k1.seven;obtain⟨m9,_⟩:=f4.one;have HB:=ac (ae hI (ae hnm (ae hr1 (ae hr2 (ae k1 (ae k2 (ae hv1 (ae hv2 (ae hv3 (ae hget (ae f1 (ae f2 (ae f4 hSt)))))))))))));have HNE:=ac (ae hne12 (ae hne14 (ae hs0 hws)));clear hI hnm hr1 hr2 k1 k2 hv1 hv2 hv3 hget f1 f2 f4 hSt hF hne12 hne14 hfxs hO HR2 hl2 hs0 hws;have hmix:Tryz.prog.follows .mixedOrders=true:=by kernel_rfl
    subst ha0;simp only[aa,ar,an];by_cases hA:ed.a.length+ed.i.length≤qt.fr
    case' pos=>
      have u5:(ed.a.length:Int)+(ed.i.length:Int)≤(qt.fr:Int):=by omega
      gi_wp2_with (
        (refine⟨trivial,?_⟩;gi_at_call 57;refine(CallsIn.inRound l' (aX.2 (G9 g ed.old (jf ed.old).2 xs _ pv _ W (H0.out.2.2.1.below HB.out.1.hb) (H0.out.2.2.2.1.next HB.out.1.hb) (by omega) (JC H0.out.2.2.2.2.1)))).mono ?_;rintro e w8 ⟨r,rfl,hcase,hb8⟩;have HC:=ac (ae hcase hb8);clear hcase hb8 p0 q0 q1 q2 s0 s1 s2 s3 s4 s5 s6 m9))
      have hI8:=HB.out.1.below HC.out.2;have hF:=hI8.fx;rw[HI.out.2.2.2.2.2.2.2.2.2] at hF;have f1:=(hF _ (dF _)).1;replace f1:Bk w8 w.heap.size 62 #[.pointer (some ⟨g,0,none⟩)]:=f1;have p0:w8.cell? ⟨w.heap.size,0,none⟩=some (.pointer (some ⟨g,0,none⟩)):=by rw[f1.cell];rfl
      have k1:=HB.out.2.2.2.2.1.below HC.out.2 HB.out.2.2.2.2.1.lt;obtain⟨s0,s1,s2,s3,s4,s5,s6⟩:=k1.seven;have hD8:=H0.out.2.2.1.below hI8.hb;have y3:w8.cell? ⟨g,1,none⟩=some (.slice A xs.length c):=by rw[hD8.bk.cell];rfl
      have hr8:=H0.out.2.2.2.1.next hI8.hb;have H8:=ac (ae hI8 (ae k1 (ae hD8 hr8)));clear hI8 hF f1 k1 hD8 hr8;rcases HC.out.1 with ⟨k,r,rfl,hk,hfr⟩|⟨rfl,hno⟩
      case' inl=>
        have hkn:k<xs.length:=(az.1 hk).1;obtain⟨ga,oa,rfl,hga,hcc⟩:=fW (lay:=uq) kq H8.out.2.2.2.rd hk rfl;have hrr:=H8.out.2.2.1.ps r (aI hk);have hq8:=HB.out.2.2.1.next HC.out.2;obtain⟨rt,rX,rv,rY,ru⟩:=r;replace hrr:Rt w8 120 2 rv rX.pd.length (fQ rX.pd):=hrr;obtain⟨rA,rc,rfl⟩:=hrr.form;have z4:w8.cell? ⟨ga,oa+k*7+4,none⟩=some (.int .i64 rX.aw):=hcc 4 _ rfl;have z5:w8.cell? ⟨ga,oa+k*7+4+1,none⟩=some (.slice rA rX.pd.length rc):=hcc 5 _ rfl;have z6:w8.cell? ⟨ga,oa+k*7+4+2,none⟩=some (.bool rX.bd):=hcc 6 _ rfl;have u6:decide ((0:Int)≤(k:Int))=true:=aG (by omega);have u7:(k:Int)<(xs.length:Int):=by omega
        have u8:(0:Int)≤(k:Int):=by omega
        have e1:rX.pd.length≤9223372036854775807:=by
          have h1:=vM ed.old k 0 mZ (au _);have h2:=vN ed.old k 0 mZ (bq _);have h3:(gI ed.old)[k]? = some (rt,rX):=by rw[←H0.out.2.2.2.2.1];simp[jM,hk]
          have h4:rX=(nw ed.old k 0 mZ).2:=(tv h3).2;rw[h4];omega
        have e2:qX.pd.length≤9223372036854775807:=by
          have h1:=vM ed.new (K+pre.length) 0 mZ (au _);have h2:=vN ed.new (K+pre.length) 0 mZ (bq _);have h4:qX=(nw ed.new (K+pre.length) 0 mZ).2:=(tv HB.out.2.2.2.2.2.2.2.2.2.1).2;rw[h4];omega
        have HS:=ac (ae hrr (ae hq8 (ae e1 (ae e2 (ae hk hfr)))));clear hrr hq8 e1 e2 hcc hk hfr;obtain⟨sb,hsb⟩:∃sb,sb=rW rX qX:=⟨_,rfl⟩;have hSame:∀W,Below w8.heap.size w8 W→jJ 58 #[.agg #[.int .i64 rX.aw,.slice rA rX.pd.length rc,.bool rX.bd],.agg #[.int .i64 qX.aw,.slice Av qX.pd.length cv,.bool qX.bd]] W (.bool sb):=fun W hW=>by
          rw[hsb];exact IN rX qX rA Av rc cv W (HS.out.1.next hW).rd (HS.out.2.1.next hW).rd HS.out.2.2.1 HS.out.2.2.2.1
        have HSm:=ac hSame;have HSb:=ac hsb;clear hSame hsb;obtain⟨S0,hS0⟩:∃S0:World→Prop,S0=fun w'=>Below w8.heap.size w8 w':=⟨_,rfl⟩
        refine gm (S:=S0) hmix (by decide +kernel) (by rintro ⟨a,w,h⟩;exact h) ?_;have hS1:S0 w8.drew:=by rw[hS0];exact(ay _ w8).drew
        have tc:∀(w':World),S0 w'→∀(a:Addr) (v:Value),w8.cell? a=some v→w'.cell? a=some v:=fun w' h a v hc=>i4 (by rw[hS0] at h;exact h) hc
        refine tk 0 (.int .i64 (k:Int)) hS1 (fun w' hS=>?_) ?_
        ·go_simp
        try simp only[Act.put,am,ai,aj,aa,an,ar]
        refine tk 1 (.bool true) hS1 (fun w' hS=>?_) ?_
        ·go_simp
        try simp only[Act.put,am,ai,aj,aa,an,ar]
        refine tk 2 (.bool true) hS1 (fun w' hS=>?_) ?_
        ·go_simp
        try simp only[Act.put,am,ai,aj,aa,an,ar]
        refine tk 3 (.pointer (some ⟨g,0,none⟩)) hS1 (fun w' hS=>?_) ?_
        ·have c:=tc w' hS _ _ p0;go_simp
        try simp only[Act.put,am,ai,aj,aa,an,ar]
        refine tk 4 (.pointer (some ⟨g,0,none⟩)) hS1 (fun w' hS=>?_) ?_
        ·go_simp
        try simp only[Act.put,am,ai,aj,aa,an,ar]
        refine tk 5 (.pointer (some ⟨g,1,none⟩)) hS1 (fun w' hS=>?_) ?_
        ·go_simp
        try simp only[Act.put,am,ai,aj,aa,an,ar]
        refine tk 6 (.slice (some ⟨ga,oa,none⟩) xs.length c) hS1 (fun w' hS=>?_) ?_
        ·have c:=tc w' hS _ _ y3;go_simp
        try simp only[Act.put,am,ai,aj,aa,an,ar]
        refine tk 7 (.int .i64 (k:Int)) hS1 (fun w' hS=>?_) ?_
        ·go_simp
        try simp only[Act.put,am,ai,aj,aa,an,ar]
        refine tk 8 (.pointer (some ⟨ga,oa+k*7,none⟩)) hS1 (fun w' hS=>?_) ?_
        ·go_simp
        try simp only[Act.put,am,ai,aj,aa,an,ar]
        refine tk 9 (.pointer (some ⟨ga,oa+k*7+4,none⟩)) hS1 (fun w' hS=>?_) ?_
        ·go_simp
        try simp only[Act.put,am,ai,aj,aa,an,ar]
        refine tk 10 (.agg #[.int .i64 rX.aw,.slice rA rX.pd.length rc,.bool rX.bd]) hS1 (fun w' hS=>?_) ?_
        ·have c4:=tc w' hS _ _ z4;have c5:=tc w' hS _ _ z5;have c6:=tc w' hS _ _ z6;go_simp
        try simp only[Act.put,am,ai,aj,aa,an,ar]
        refine tk 11 (.pointer (some ⟨b1,4,none⟩)) hS1 (fun w' hS=>?_) ?_
        ·go_simp
        try simp only[Act.put,am,ai,aj,aa,an,ar]
        refine tk 12 (.agg #[.int .i64 qX.aw,.slice Av qX.pd.length cv,.bool qX.bd]) hS1 (fun w' hS=>?_) ?_
        ·have c4:=tc w' hS _ _ s4;have c5:=tc w' hS _ _ s5;have c6:=tc w' hS _ _ s6;go_simp
        try simp only[Act.put,am,ai,aj,aa,an,ar]
        refine wpAnyH_all (rs:=[13]) (by decide +kernel) (by simp) (eR rfl (by rfl) (fun K2 hK2=>?_) (fj (S:=S0)));go_simp;go_at_call 58;refine(HSm.out _ (ay _ _).drew).mono ?_;rintro e w10 ⟨rfl,hb10⟩;have H10:=ac ((ay w8.heap.size w8).drew.trans hb10);clear hb10;have hS2:S0 w10:=by rw[hS0];exact H10.out
        refine hK2 _ _ hS2 ?_;clear hK2 K2;try simp only[Act.put,am,ai,aj,aa,an,ar]
        refine tk 14 (.bool sb) hS2 (fun w' hS=>?_) ?_
        ·go_simp
        try simp only[Act.put,am,ai,aj,aa,an,ar]
        refine wpAnyH_done (by decide +kernel) ?_ _;have hI10:=H8.out.1.below H10.out;obtain⟨e0,e1⟩:=hI10.tl.one;have HI10:=ac hI10;clear hI10
        cases sb
        case' true=>
          gi_wp2_with fail;have hsx:rX=qX:=(uL _ _).1 HSb.out.symm;have hmt:=MN (q:=⟨qt,qX,.slice Av qX.pd.length cv,qY,.slice Au qY.pd.length cu⟩) H0.out.2.2.2.2.1 HB.out.2.2.2.2.2.2.2.2.2.1 HS.out.2.2.2.2.1 hA HS.out.2.2.2.2.2 hsx;have hf:=Mq (k:Int) HNE.out.2.1 (by have:=H0.out.2.2.1.bk.lt;omega) (by have:=HNE.out.2.2.1;omega) HI10.out _ rfl;have hf2:=BE (w:=w) (HC.out.2.trans (H10.out.mono HC.out.2.size)) (fun k hk=>(HB.out.1.xb k hk).2) hf;exact⟨hf2.1,hf2.2.1,hf2.2.2.1,rfl,pre,_,rfl,k,hf2.2.2.2,hmt,HB.out.2.1,HB.out.2.2.2.2.2.2.2.2.2.2.2.2.2⟩
        case' false=>
          gi_wp2_with fail;have hsx:rX≠qX:=fun h=>by have h1:=(uL _ _).2 h;rw[←HSb.out] at h1;cases h1
          have hno:=NW (q:=⟨qt,qX,.slice Av qX.pd.length cv,qY,.slice Au qY.pd.length cu⟩) H0.out.2.2.2.2.1 HB.out.2.2.2.2.2.2.2.2.2.1 HS.out.2.2.2.2.1 HS.out.2.2.2.2.2 hsx;have hbW:=HC.out.2.trans (H10.out.mono HC.out.2.size);have hX0:∀k,X k→k<W.heap.size:=fun k hk=>(HB.out.1.xb k hk).2
          have HZ:=ac (ae HI10.out (ae hbW (ae (HB.out.2.2.1.next hbW) (ae (HB.out.2.2.2.1.next hbW) (ae (HB.out.2.2.2.2.1.below hbW HB.out.2.2.2.2.1.lt) (ae (HB.out.2.2.2.2.2.1.below hbW HB.out.2.2.2.2.2.1.lt) (ae (i4 hbW HB.out.2.2.2.2.2.2.1) (ae HB.out.2.2.2.2.2.2.2.1 (ae HB.out.2.2.2.2.2.2.2.2.1 (ae hno (ae hX0 HB.out.2.1)))))))))));obtain⟨Wc,hWc⟩:∃Wc,Wc=w10:=⟨_,rfl⟩;subst hWc
      case' inr=>
        have u6:decide ((0:Int) ≤ -1)=false:=by decide
        refine gm (S:=fun _=>True) hmix (by decide +kernel) (by rintro ⟨a,w,h⟩;exact h) ?_;refine tk 0 (.int .i64 (-1)) trivial (fun w' hS=>?_) ?_
        ·go_simp
        try simp only[Act.put,am,ai,aj,aa,an,ar]
        refine tk 1 (.bool false) trivial (fun w' hS=>?_) ?_
        ·go_simp
        try simp only[Act.put,am,ai,aj,aa,an,ar]
        refine tk 2 (.bool false) trivial (fun w' hS=>?_) ?_
        ·go_simp
        try simp only[Act.put,am,ai,aj,aa,an,ar]
        refine sk 3 trivial ?_;try simp only[Act.put,am,ai,aj,aa,an,ar]
        refine sk 4 trivial ?_;try simp only[Act.put,am,ai,aj,aa,an,ar]
        refine sk 5 trivial ?_;try simp only[Act.put,am,ai,aj,aa,an,ar]
        refine sk 6 trivial ?_;try simp only[Act.put,am,ai,aj,aa,an,ar]
        refine sk 7 trivial ?_;try simp only[Act.put,am,ai,aj,aa,an,ar]
        refine sk 8 trivial ?_;try simp only[Act.put,am,ai,aj,aa,an,ar]
        refine sk 9 trivial ?_;try simp only[Act.put,am,ai,aj,aa,an,ar]
        refine sk 10 trivial ?_;try simp only[Act.put,am,ai,aj,aa,an,ar]
        refine sk 11 trivial ?_;try simp only[Act.put,am,ai,aj,aa,an,ar]
        refine sk 12 trivial ?_;try simp only[Act.put,am,ai,aj,aa,an,ar]
        refine sk 13 trivial ?_;try simp only[Act.put,am,ai,aj,aa,an,ar]
        refine tk 14 (.bool false) trivial (fun w' hS=>?_) ?_
        ·go_simp
        try simp only[Act.put,am,ai,aj,aa,an,ar]
        refine wpAnyH_done (by decide +kernel) ?_ _;gi_wp2_with fail;have hno2:=hno;have hno:∀i,¬Mt ed i (K+pre.length):=fun i hm=>by
          obtain⟨r',g1,g2,g3,g4⟩:=Hs (q:=⟨qt,qX,.slice Av qX.pd.length cv,qY,.slice Au qY.pd.length cu⟩) H0.out.2.2.2.2.1 HB.out.2.2.2.2.2.2.2.2.2.1 hm;replace g3:qt.fr=r'.t.fr-ed.d.length+ed.i.length:=g3;exact hno2 i r' g1 (by omega)
        have hbW:=HC.out.2.drew;have hX0:∀k,X k→k<W.heap.size:=fun k hk=>(HB.out.1.xb k hk).2
        have HZ:=ac (ae (H8.out.1.below (ay _ w8).drew) (ae hbW (ae (HB.out.2.2.1.next hbW) (ae (HB.out.2.2.2.1.next hbW) (ae (HB.out.2.2.2.2.1.below hbW HB.out.2.2.2.2.1.lt) (ae (HB.out.2.2.2.2.2.1.below hbW HB.out.2.2.2.2.2.1.lt) (ae (i4 hbW HB.out.2.2.2.2.2.2.1) (ae HB.out.2.2.2.2.2.2.2.1 (ae HB.out.2.2.2.2.2.2.2.2.1 (ae hno (ae hX0 HB.out.2.1)))))))))));generalize w8.drew=Wc at HZ ⊢
    case' neg=>
      have u5:¬(ed.a.length:Int)+(ed.i.length:Int)≤(qt.fr:Int):=by omega
      gi_wp2_with fail;have hno:∀i,¬Mt ed i (K+pre.length):=fun i hm=>by
        obtain⟨r',g1,g2,g3,g4⟩:=Hs (q:=⟨qt,qX,.slice Av qX.pd.length cv,qY,.slice Au qY.pd.length cu⟩) H0.out.2.2.2.2.1 HB.out.2.2.2.2.2.2.2.2.2.1 hm;replace g3:qt.fr=r'.t.fr-ed.d.length+ed.i.length:=g3;omega
      have hbW:=ay W.heap.size W;have hX0:∀k,X k→k<W.heap.size:=fun k hk=>(HB.out.1.xb k hk).2
      have HZ:=ac (ae HB.out.1 (ae hbW (ae (HB.out.2.2.1.next hbW) (ae (HB.out.2.2.2.1.next hbW) (ae (HB.out.2.2.2.2.1.below hbW HB.out.2.2.2.2.1.lt) (ae (HB.out.2.2.2.2.2.1.below hbW HB.out.2.2.2.2.2.1.lt) (ae (i4 hbW HB.out.2.2.2.2.2.2.1) (ae HB.out.2.2.2.2.2.2.2.1 (ae HB.out.2.2.2.2.2.2.2.2.1 (ae hno (ae hX0 HB.out.2.1)))))))))));obtain⟨Wc,hWc⟩:∃Wc,Wc=W:=⟨_,rfl⟩;subst hWc
    all_goals
      obtain⟨hI,hbW,hr1,hr2,k1,k2,hv1,hv2,hv3,hno,hX0,hnm⟩:=HZ.out;obtain⟨⟨lv,pv2,hrow,hnx,hl1',hx1,hpv⟩,hps,htl,hfx1,hnx1,hbI,hNI,hxb⟩:=hI;obtain rfl:lv=v1:=by
        rw[hl1'.cell] at hv1;injection hv1
      have nb1:b1≠b12:=i5 k1 hl1' (by decide);have nb2:b1≠b13:=i5 k1 hx1 (by decide);have nb3:b2≠b12:=i5 k2 hl1' (by decide);have nb4:b12≠b13:=i5 hl1' hx1 (by decide);obtain⟨S0,hS0⟩:∃S0:World→Prop,S0=fun w'=>Bk w' b1 94 #[.int .i64 (qt.kd:Int),.int .i64 (qt.fr:Int),.int .i64 (qt.to:Int),.bool qt.op,.int .i64 qX.aw,.slice Av qX.pd.length cv,.bool qX.bd]∧Bk w' b2 85 #[.int .i64 qY.aw,.slice Au qY.pd.length cu,.bool qY.bd]:=⟨_,rfl⟩
      refine gm (S:=S0) hmix (by decide +kernel) (by rintro ⟨a,w,h⟩;exact h) ?_;have hS1:S0 Wc.drew:=by rw[hS0];exact⟨k1,k2⟩
      have t2:∀w',S0 w'→_:=fun w' h=>Bk.seven (by rw[hS0] at h;exact h.1)
      have t3:∀w',S0 w'→_:=fun w' h=>Bk.three (by rw[hS0] at h;exact h.2)
      refine tk 1 (.agg #[.int .i64 (qt.kd:Int),.int .i64 (qt.fr:Int),.int .i64 (qt.to:Int),.bool qt.op,.int .i64 qX.aw,.slice Av qX.pd.length cv,.bool qX.bd]) hS1 (fun w' hS=>?_) ?_
      ·obtain⟨c0,c1,c2,c3,c4,c5,c6⟩:=t2 w' hS;go_simp
      try simp only[Act.put,am,ai,aj,aa,an,ar]
      refine tk 4 (.agg #[.int .i64 qY.aw,.slice Au qY.pd.length cu,.bool qY.bd]) hS1 (fun w' hS=>?_) ?_
      ·obtain⟨c0,c1,c2,_⟩:=t3 w' hS;go_simp
      try simp only[Act.put,am,ai,aj,aa,an,ar]
      have y1:Wc.cell? ⟨b12,0,none⟩=some lv:=by rw[hl1'.cell];rfl
      have y2:Wc.drew.cell? ⟨b12,0,none⟩=some lv:=y1;have hSet:∀w' i v,S0 w'→S0 (w'.setCell ⟨b12,i,none⟩ v):=fun w' i v h=>by
        rw[hS0] at h ⊢;exact⟨h.1.far (p:=⟨b12,i,none⟩) nb1 v,h.2.far (p:=⟨b12,i,none⟩) nb3 v⟩
      have hSet3:∀w' i v,S0 w'→S0 (w'.setCell ⟨b13,i,none⟩ v):=fun w' i v h=>by
        rw[hS0] at h ⊢;exact⟨h.1.far (p:=⟨b13,i,none⟩) nb2 v,h.2.far (p:=⟨b13,i,none⟩) hv3 v⟩
      have hSa:S0 (Wc.alloc (.cells #[.int .i64 (qt.kd:Int),.int .i64 (qt.fr:Int),.int .i64 (qt.to:Int),.bool qt.op,.int .i64 qX.aw,.slice Av qX.pd.length cv,.bool qX.bd] 94)).drew:=by rw[hS0];exact⟨Bk.alloc k1 _,Bk.alloc k2 _⟩
      have y3:(Wc.alloc (.cells #[.int .i64 (qt.kd:Int),.int .i64 (qt.fr:Int),.int .i64 (qt.to:Int),.bool qt.op,.int .i64 qX.aw,.slice Av qX.pd.length cv,.bool qX.bd] 94)).drew.cell? ⟨b12,0,none⟩=some lv:=iy y1;have rowa:(Wc.alloc (.cells #[.int .i64 (qt.kd:Int),.int .i64 (qt.fr:Int),.int .i64 (qt.to:Int),.bool qt.op,.int .i64 qX.aw,.slice Av qX.pd.length cv,.bool qX.bd] 94)).drew.ownsRow w.heap.size 94 7 lv (xs.take K++pre).length (iB (xs.take K++pre)):=hrow.alloc _;have rda:Rd (Wc.alloc (.cells #[.int .i64 (qt.kd:Int),.int .i64 (qt.fr:Int),.int .i64 (qt.to:Int),.bool qt.op,.int .i64 qX.aw,.slice Av qX.pd.length cv,.bool qX.bd] 94)).drew (Wc.heap.size+1) 7 (.slice (some ⟨Wc.heap.size,0,none⟩) 1 1) 1 (iB [⟨qt,qX,.slice Av qX.pd.length cv,qY,.slice Au qY.pd.length cu⟩]):=iK Wc (iB [⟨qt,qX,.slice Av qX.pd.length cv,qY,.slice Au qY.pd.length cu⟩]) 94 7 1 rfl (by omega);have one1:∀u∈iB [⟨qt,qX,.slice Av qX.pd.length cv,qY,.slice Au qY.pd.length cu⟩],u.oneCell'=true:=sM (fun q hq=>by rw[dw.1 hq];exact⟨_,_,_,rfl⟩);have HX:=ac (ae k1 (ae k2 (ae hl1' (ae hx1 (ae rowa (ae rda (ae one1 (ae hv2 (ae nb4 hS0)))))))));clear hbW hr1 hr2 k1 k2 hv1 hv2 hv3 hno hX0 hnm hrow hnx hl1' hx1 hpv hps htl hfx1 hnx1 hbI hNI hxb hS0 t2 t3 rowa rda one1 nb1 nb2 nb3 nb4;have nb4:b12≠b13:=HX.out.2.2.2.2.2.2.2.2.1;have nb5:¬b13=b12:=fun h=>nb4 h.symm
      have zl:(xs.take K++pre).length≤1900:=by rw[aD,bz];omega
      refine wpAnyH_all (rs:=[0,2]) (by decide +kernel) (by simp) (eR rfl (by rfl) (fun Kc hK=>?_) (eR rfl (by rfl) (fun Kc hK=>?_) (fj (S:=S0))))
      repeat' (first
        | (revert hK
           intro hK;go_simp;refine hK _ _ ?_ ?_
           ·first|with_reducible assumption|(with_reducible refine hSet _ _ _ ?_;with_reducible assumption)|(with_reducible refine hSet3 _ _ _ (hSet3 _ _ _ (hSet3 _ _ _ (hSet _ _ _ ?_)));with_reducible assumption)
           clear hK Kc;try simp only[Act.put,am,ai,aj,aa,an,ar])
        | refine wpAnyH_all (rs:=[2]) (by decide +kernel) (by simp) (eR rfl (by rfl) (fun Kc hK=>?_) (fj (S:=S0)))
        | refine wpAnyH_all (rs:=[0]) (by decide +kernel) (by simp) (eR rfl (by rfl) (fun Kc hK=>?_) (fj (S:=S0)))
        | fail)
      all_goals
           refine wpAnyH_all (rs:=[3]) (by decide +kernel) (by simp) (eR rfl (by rfl) (fun Kc hK=>?_) (fj (S:=S0)));refine iF (.tmp 101) (.tmp 103) 82 rfl w.heap.size 94 i0 _ 7 72 Tryz.underlying82 hi0 hz0 hz1 hz2 rfl (by decide) lv (xs.take K++pre).length (iB (xs.take K++pre)) rfl HX.out.2.2.2.2.1 (.slice (some ⟨Wc.heap.size,0,none⟩) 1 1) 1 (Wc.heap.size+1) _ rfl HX.out.2.2.2.2.2.1 HX.out.2.2.2.2.2.2.1 (by unfold maxLen;omega) (by omega) (by simp;have:=HZ.out.1.hN;have:=HZ.out.1.hb.size;omega) ?_;intro v3 w3 hown3 hg3 hv3;have kl3:=Bk.overrow (Bk.drew (Bk.alloc HX.out.2.2.1 _)) HX.out.2.2.2.2.1 hg3 (by decide);have kx3:=Bk.overrow (Bk.drew (Bk.alloc HX.out.2.2.2.1 _)) HX.out.2.2.2.2.1 hg3 (by decide);obtain⟨d0,d1⟩:=kl3.one;obtain⟨d2,d3,d4,d5,d6,d7⟩:=kx3.three;have hS3:S0 w3:=by
             rw[HX.out.2.2.2.2.2.2.2.2.2];exact⟨(Bk.drew (Bk.alloc HX.out.1 _)).grown hg3 (fun e=>HX.out.2.2.2.2.2.2.2.1 e.symm),Bk.overrow (Bk.drew (Bk.alloc HX.out.2.1 _)) HX.out.2.2.2.2.1 hg3 (by decide)⟩
           obtain⟨A3,n3,c3,rfl⟩:=eA hown3;have H3:=ac (ae hown3 (ae hg3 hv3));clear hown3 hg3 hv3 kl3 kx3;refine hK _ _ hS3 ?_;clear hK Kc;try simp only[Act.put,am,ai,aj,aa,an,ar]
           refine wpAnyH_all (rs:=[5]) (by decide +kernel) (by simp) (eR rfl (by rfl) (fun Kc hK=>?_) (fj (S:=S0)));go_simp;refine hK _ _ (by with_reducible refine hSet _ _ _ ?_;with_reducible assumption) ?_;clear hK Kc;try simp only[Act.put,am,ai,aj,aa,an,ar]
           refine wpAnyH_all (rs:=[6]) (by decide +kernel) (by simp) (eR rfl (by rfl) (fun Kc hK=>?_) (fj (S:=S0)));go_simp;refine hK _ _ (by with_reducible refine hSet3 _ _ _ (hSet3 _ _ _ (hSet3 _ _ _ (hSet _ _ _ ?_)));with_reducible assumption) ?_;clear hK Kc;try simp only[Act.put,am,ai,aj,aa,an,ar]
           refine wpAnyH_done (by decide +kernel) ?_ _;gi_wp2_with fail;obtain⟨o1,o2,o3⟩:=H3.out;obtain⟨hI,hbW,hr1,hr2,_,_,_,_,_,hno,hX0,hnm⟩:=HZ.out;have hf:=BE (w:=w) hbW hX0 (Mu (q:=⟨qt,qX,.slice Av qX.pd.length cv,qY,.slice Au qY.pd.length cu⟩) HNE.out.1 (by omega) (by omega) (by have:=HNE.out.2.2.1;omega) (by have:=HNE.out.2.2.1;omega) hI HX.out.2.2.1 hr1 hr2 o2 o1 o3 _ rfl);refine⟨hf.1,hf.2.1,hf.2.2.1,?_,fun j hj i=>?_⟩
           ·rw[pB,←aW];exact hf.2.2.2
           ·rw[aD,bU] at hj;rcases bC j (K+pre.length) with h|h
            ·exact hnm j h i
            ·obtain rfl:j=K+pre.length:=by omega
             exact hno i
  case done=>
    rintro D X ys W hD hys hI hK;obtain⟨e1,e2⟩:=xw hys;obtain⟨g1,g2,g3⟩:=HI.out.2.2.2.2.2.1;have hpk:jM (xs.take K)=(gI ed.old).take K:=by rw[←H0.out.2.2.2.2.1];simp[jM]
    refine HR2 D _ _ xs.length X W hD hI.1 hK (.inl ⟨rfl,?_,?_,oX.none fun j hj=>hI.2 j ?_⟩)
    ·rw[g1,←e1,←hpk];simp[jM]
    ·rw[g2,e2]
    ·rw[g1,aD,←e1,←hpk] at hj;simp[jM] at hj;omega
  case stop=>
    intro D c X pre W h1 h2 h3 h4;obtain⟨rfl,pre,q,n,rfl,hA,hm,hno,hst⟩:=h3;obtain⟨g1,g2,g3⟩:=HI.out.2.2.2.2.2.1;have hpk:jM (xs.take K)=(gI ed.old).take K:=by rw[←H0.out.2.2.2.2.1];simp[jM]
    have hn:n<xs.length:=by
      obtain⟨p,q,m1,_⟩:=hm.w;rw[H0.out.2.2.2.2.2.2]
      exact(az.1 m1).1
    have hlk:(jM (xs.take K)).length=K:=by simp[jM];omega
    refine wpIn_exit ?_;refine HR2 D _ _ n X W h1 hA h4 (.inr ⟨hn,⟨_,hm,?_⟩,?_⟩)
    ·have h5:jM (pre++[q])<+:ic ed.new x0 Z0:=by
       rw[KQ,←vH];exact List.IsPrefix.map _ hst
     have h6:jM pre<+:ic ed.new x0 Z0:=bY ⟨jM [q],by simp[jM]⟩ h5;have h7:=List.prefix_iff_eq_take.1 h6;have h8:(jM pre).length=pre.length:=by simp[jM]
     have h9:(jM (xs.take K)++ic ed.new x0 Z0).take (K+pre.length)=jM (xs.take K)++jM pre:=by
       rw[List.take_append,hlk,dI,bR (by rw[hlk];omega),←h8,←h7]
     rw[g1,←hpk,h9];unfold jM;rw[bG]
    ·rw[H0.out.2.2.2.2.2.2];exact oX.some hm hno
end
end
end Go.Proofs.YtmclohkaiemnaaaGreatDoor
