/- The program's machine (modes.Machine) in memory: its frames hold the modes of a stack of letters; open, shut, become, below, New. -/
import Derived.Test.YtmclohkaiemnaaaGreatDoorMem
import Derived.Test.YtmclohkaiemnaaaGreatDoorPl6
import Derived.Test.YtmclohkaiemnaaaGreatDoorCls
set_option linter.unusedVariables false
set_option linter.unusedSimpArgs false
set_option maxRecDepth 100000
set_option maxHeartbeats 8000000
namespace Go.Proofs.YtmclohkaiemnaaaGreatDoor
open Go.RowKit
variable {av:Array Value} {f':Bool} {Q:Ending→World→Prop} {fn:FuncId} {T:List TypeId} {i:Nat} {st':fK} {v:Value} {w' a w0:World} (B b:Nat) (r st:fK) (p q:Int) (x d:UInt8) (m:Int) (c:UInt8) (f:Bool) (at_:Int) (b0:Nat) (w:World)
def gC (st:fK):List Value:=st.reverse.flatMap fun x=>[.int .i64 (fg x.1),.int .i64 x.2]
theorem gX (p:Int) (st:fK):gC ((c,p)::st)=gC st++[.int .i64 (fg c),.int .i64 p]:=by simp[gC]
theorem iI:(gC st).length=st.length*2:=by
  induction st with
  | nil=>rfl
  | cons x st ih=>obtain⟨c,p⟩:=x;rw[gX];simp[ih];omega
def eT (w:World) (B b:Nat) (st:fK) (f:Bool) (at_:Int):Prop:=
  B≤b∧∃g cap,Bk w b 177 #[.slice (some ⟨g,0,none⟩) st.length cap,.bool f,.int .i64 at_]∧w.ownsRow B 175 2 (.slice (some ⟨g,0,none⟩) st.length cap) st.length (gC st)
theorem eT.below {w:World} {B b:Nat} {st:fK} {f:Bool} {at_:Int} (h:eT w B b st f at_) (hb:Below w.heap.size w w'):eT w' B b st f at_:=by
  obtain⟨h1,g,cap,h2,h3⟩:=h;exact⟨h1,g,cap,h2.below hb h2.lt,eC h3 hb⟩
theorem eT.le {w:World} {B b:Nat} {st:fK} {f:Bool} {at_:Int} (h:eT w B b st f at_):B≤b∧b<w.heap.size:=by
  obtain⟨h1,g,cap,h2,h3⟩:=h;exact⟨h1,h2.lt⟩
structure BM (B:Nat) (w w':World):Prop where
  b:Below B w w'
  t:KT [177,175] w w'
theorem BM.refl:BM B w w:=⟨ay _ _,KT.refl _ _⟩
theorem BM.trans {B:Nat} {b c:World} (h:BM B a b) (h':BM B b c):BM B a c:=⟨h.b.trans h'.b,h.t.trans h'.t⟩
theorem BM.drewN {B:Nat} {b:World} (h:BM B a b) (n:Nat):BM B a (b.drewN n):=⟨dX h.b n,h.t.drewN n⟩
theorem BM.setCell {B b:Nat} {w:World} {st:fK} {f:Bool} {at_:Int} (h:BM B a w) (hm:eT w B b st f at_) (v:Value):BM B a (w.setCell ⟨b,i,none⟩ v):=by
  obtain⟨h1,g,cap,h2,h3⟩:=hm;exact⟨h.b.setCell h1 v,h.t.setCell h2 (by simp) i v⟩
theorem eT.kt {w:World} {B b:Nat} {st:fK} {f:Bool} {at_:Int} (h:eT w B b st f at_) (hk:KT T w w') (h1:177∉T) (h2:175∉T):eT w' B b st f at_:=by
  obtain⟨m1,g,cap,m2,m3⟩:=h;exact⟨m1,g,cap,m2.kt hk h1,Ae m3 hk h2⟩
def Mo (w:World) (B b:Nat) (v:Value) (st:fK) (f:Bool) (at_:Int) (e:Ending) (w':World):Prop:=e=.returned v∧eT w' B b st f at_∧BM B w w'
abbrev lu (fn:FuncId) (c:UInt8) (w:World) (B b:Nat) (v:Value) (st:fK) (f:Bool) (at_:Int):Prop:=Calls Tryz.prog fn #[.pointer (some ⟨b,0,none⟩),.int .u8 (c.toNat:Int)] w (Mo w B b v st f at_)
abbrev gF (fn:FuncId) (m:Int) (c:UInt8) (w:World) (B b:Nat) (v:Value) (st:fK) (f:Bool) (at_:Int):Prop:=Calls Tryz.prog fn #[.pointer (some ⟨b,0,none⟩),.int .i64 m,.int .u8 (c.toNat:Int)] w (Mo w B b v st f at_)
theorem eH {w:World} {B b:Nat} {st:fK} {f:Bool} {at_:Int} (h:eT w' B b st' f' at_) (hb:BM B w w') (hs:st'=st) (hf:f'=f):Mo w B b v st f at_ (.returned v) w':=by
  subst hs hf;exact⟨rfl,h,hb⟩
theorem eT.setFresh {w:World} {B b:Nat} {st:fK} {f:Bool} {at_:Int} (h:eT w B b st f at_) (f':Bool):eT (w.setCell ⟨b,1,none⟩ (.bool f')) B b st f' at_:=by
  obtain⟨h1,g,cap,h2,h3⟩:=h;refine⟨h1,g,cap,by simpa using h2.set 1 (.bool f'),fh h3 ?_ _⟩;exact eP h3 h2 (by decide)
theorem eT.setAt {w:World} {B b:Nat} {st:fK} {f:Bool} {at_:Int} (h:eT w B b st f at_) (k:Int):eT (w.setCell ⟨b,2,none⟩ (.int .i64 k)) B b st f k:=by
  obtain⟨h1,g,cap,h2,h3⟩:=h;refine⟨h1,g,cap,by simpa using h2.set 2 (.int .i64 k),fh h3 ?_ _⟩;exact eP h3 h2 (by decide)
theorem Ha (p:Int) (c d:UInt8) (w:World) (h:eT w B b ((c,p)::st) f at_) :
    Calls Tryz.prog 157 #[.pointer (some ⟨b,0,none⟩),.int .i64 (fg d)] w (Mo w B b (.tuple #[]) ((d,p)::st) f at_):=by
  obtain⟨h1,g,cap,h2,h3⟩:=h;have hle:=iu h3;have hcap:=hle.2.2.1;have hc1:st.length+1≤cap:=hle.2.1;unfold maxLen at hcap;have c0:w.cell? ⟨b,0,none⟩=some (.slice (some ⟨g,0,none⟩) (st.length+1) cap):=by rw[h2.cell];rfl
  have c1:w.cell? ⟨g,st.length*2,none⟩=some (.int .i64 (fg c)):=eM h3 _ _ (by rw[gX,aP (by rw[iI];omega)];simp[iI]);have f1:=fZ h3 (st.length*2);have H:=ac (ae h1 (ae h2 h3));clear h1 h2 h3 hle;generalize hn:st.length=n at *;have HN:=ac hn;clear hn;go_enter Tryz.func157,Tryz.ntmps157;go_wp2;go_region;all_goals go_end0
  all_goals (
    obtain⟨h1,h2,h3⟩:=H.out;have hn:=HN.out;subst hn;refine⟨rfl,⟨h1,g,cap,?_,?_⟩,?_⟩
    ·exact(h2.far (show b≠g from fun e=>eP h3 h2 (by decide) (by rw[e];rfl)) _).drew
    ·refine gY ?_
     have:=ox h3 (st.length*2) (.int .i64 (fg d))
     have e:(gC ((c,p)::st)).set (st.length*2) (.int .i64 (fg d))=gC ((d,p)::st):=by
       rw[gX,gX,dt _ _ (by rw[iI];omega)];simp[iI]
     rw[e] at this;exact this
    ·exact⟨((ay _ _).setCell (iu h3).2.2.2.1 _).drew,((KT.refl _ _).setCell (kY h3) (by simp) _ _).drew⟩)
theorem jn (p:Int) (c:UInt8) (w:World) (h:eT w B b ((c,p)::st) f at_) (hne:st≠[]) :
    Calls Tryz.prog 158 #[.pointer (some ⟨b,0,none⟩)] w (Mo w B b (.tuple #[]) st f at_):=by
  obtain⟨h1,g,cap,h2,h3⟩:=h;obtain⟨x,r,rfl⟩:=List.exists_cons_of_ne_nil hne;have hle:=iu h3;have hcap:=hle.2.2.1;have hc1:r.length+2≤cap:=hle.2.1;unfold maxLen at hcap;have c0:w.cell? ⟨b,0,none⟩=some (.slice (some ⟨g,0,none⟩) (r.length+2) cap):=by rw[h2.cell];rfl
  have f1:=h2.frozen 0;have H:=ac (ae h1 (ae h2 h3));clear h1 h2 h3 hle hne;generalize hn:r.length=n at *;have HN:=ac hn;clear hn;go_enter Tryz.func158,Tryz.ntmps158;go_wp2;go_region;all_goals go_wp2
  all_goals go_end0
  all_goals (
    obtain⟨h1,h2,h3⟩:=H.out;have hn:=HN.out;subst hn;refine⟨rfl,⟨h1,g,cap,?_,?_⟩,?_⟩
    ·have:=(h2.set 0 (.slice (some ⟨g,0,none⟩) (r.length+1) cap)).drew
     simpa using this
    ·refine gY (fh ?_ ?_ _)
     ·rw[gX] at h3;exact ownsRow_pop (iI _) h3
     ·have:=eP h3 h2 (by decide)
      simpa [Value.ownBlock] using this
    ·exact⟨((ay _ _).setCell h1 _).drew,((KT.refl _ _).setCell h2 (by simp) _ _).drew⟩)
theorem Kq (p q:Int) (c d:UInt8) (w:World) (h:eT w B b ((c,p)::(d,q)::st) f at_) :
    Ob 188 #[.pointer (some ⟨b,0,none⟩)] w (.int .i64 (fg d)):=by
  obtain⟨h1,g,cap,h2,h3⟩:=h;have hle:=iu h3;have hcap:=hle.2.2.1;have hc1:st.length+2≤cap:=hle.2.1;unfold maxLen at hcap;have c0:w.cell? ⟨b,0,none⟩=some (.slice (some ⟨g,0,none⟩) (st.length+2) cap):=by rw[h2.cell];rfl
  have c1:w.cell? ⟨g,st.length*2,none⟩=some (.int .i64 (fg d)):=eM h3 _ _ (by
    rw[gX,gX,aW,aP (by rw[iI];omega)];simp[iI])
  clear h1 h2 h3 hle;generalize st.length=n at *;go_enter Tryz.func188,Tryz.ntmps188;go_wp2;go_quiet (fail);go_wp2;go_ret;exact⟨rfl,_,rfl⟩
theorem Tryz.infoFrame:(Tryz.prog.info? 175).map (fun i=>(i.zero,i.size,i.bytes))=some (some (.agg #[.int .i64 0,.int .i64 0]),2,16):=by kernel_rfl
theorem LO (x y:Value) (t:TypeId):Rd (w.alloc (.cells #[x,y] t)) (w.heap.size+1) 2 (.slice (some ⟨w.heap.size,0,none⟩) 1 1) 1 [x,y]:=iK w [x,y] t 2 1 rfl (by omega)
theorem LX (d:UInt8) (w:World) (h:eT w B b st f at_) (hne:st≠[]) (hl:st.length≤1000000) :
    Calls Tryz.prog 190 #[.pointer (some ⟨b,0,none⟩),.int .i64 (fg d)] w (Mo w B b (.tuple #[]) ((d,at_)::st) f at_):=by
  obtain⟨h1,g,cap,h2,h3⟩:=h;have c0:w.cell? ⟨b,0,none⟩=some (.slice (some ⟨g,0,none⟩) st.length cap):=by rw[h2.cell];rfl
  have c2:w.cell? ⟨b,2,none⟩=some (.int .i64 at_):=by rw[h2.cell];rfl
  have f0:=h2.frozen 0;have hbl:=h2.lt;have hle:=iu h3;have hgb:¬g=b:=fun e=>eP h3 h2 (by decide) (by rw[e];rfl)
  have hbg:¬b=g:=fun e=>hgb e.symm
  have hB:B≤w.heap.size:=by omega
  have H:=ac (ae h1 (ae h2 (ae h3 hle)));clear h1 h2 h3 hle hne;generalize hn:st.length=n at *;have HN:=ac hn;clear hn;obtain⟨i0,hi,hz0,hz1,hz2⟩:=cL Tryz.infoFrame;go_enter Tryz.func190,Tryz.ntmps190;go_wp2
  go_region_law (first
    | (refine gr rfl (.tmp 8) (.tmp 15) 146 rfl B 175 i0 _ 2 16 Tryz.underlying146 hi hz0 hz1 hz2 rfl (by decide) (.slice (some ⟨g,0,none⟩) n cap) n (gC st) (by simp[Act.eval]) (H.out.2.2.1.alloc _) (.slice (some ⟨w.heap.size,0,none⟩) 1 1) 1 (w.heap.size+1) [.int .i64 (fg d),.int .i64 at_] (by simp[Act.eval]) (Rd.drew (LO w _ _ _)) (by intro u hu;simp at hu;rcases hu with rfl|rfl<;>rfl) (by unfold maxLen;omega) (by omega) (by simp;omega) ?_;intro v1 w1 hown1 hg1 hv1;obtain⟨g',cap',rfl⟩:=gS hown1;have kk:=(H.out.2.1.alloc (.cells #[.int .i64 (fg d),.int .i64 at_] 175)).drew.grown (row:=some g) hg1 (by simpa using hbg);have y0:=kk.cell 0;simp only[aT,aQ] at y0;have y1:=kk.frozen 0;have H1:=ac (ae hown1 (ae hg1 kk));clear hown1 hg1 hv1 kk))
  all_goals go_wp2
  all_goals go_end0
  all_goals (
    obtain⟨h1,h2,h3,hle⟩:=H.out;obtain⟨hown1,hg1,kk⟩:=H1.out;have hn:=HN.out;subst hn;refine⟨rfl,⟨h1,g',cap',?_,?_⟩,?_⟩
    ·simpa using kk.set 0 (.slice (some ⟨g',0,none⟩) (st.length+1) cap')
    ·rw[gX];refine fh hown1 ?_ _
     have:=eP hown1 kk (by decide)
     exact this
    ·exact⟨Below.setCell ((br (ay _ _) hB _).drew.grown (row:=some g) hg1 (by simp;omega) (by intro k hk;injection hk with hk;omega)) h1 _,(((KT.refl _ _).alloc _).drew.grown (row:=some g) hg1 (by intro k hk;injection hk with hk;subst hk;obtain⟨cs,t,fr,q1,q2⟩:=jR (gY (h3.alloc _)) g rfl;exact⟨cs,t,fr,q1,by rw[q2];simp⟩)).setCell kk (by simp) _ _⟩)
theorem Fw:Calls Tryz.prog 131 #[] w fun e w'=>∃b,e=.returned (.pointer (some ⟨b,0,none⟩))∧eT w' w.heap.size b [(84,0)] true 0∧Below w.heap.size w w':=by
  go_enter Tryz.func131,Tryz.ntmps131;go_wp2;go_returns;refine⟨w.heap.size+1,rfl,⟨bW _,w.heap.size,1,?_,?_⟩,by go_grown⟩
  ·simpa using Bk.new (w.alloc (.cells #[.int .i64 0,.int .i64 0] 175)) 177 #[.slice (some ⟨w.heap.size,0,none⟩) 1 1,.bool true,.int .i64 0]
  ·refine World.ownsRow.alloc ?_ _;exact⟨rfl,.inr ⟨w.heap.size,1,_,rfl,au _,Bk.new _ _ _,au _,by unfold maxLen;omega,rfl,rfl⟩⟩
theorem eT.cells {w:World} {B b:Nat} {st:fK} {f:Bool} {at_:Int} (h:eT w B b st f at_):w.cell? ⟨b,1,none⟩=some (.bool f)∧w.cell? ⟨b,2,none⟩=some (.int .i64 at_)∧w.frozen? ⟨b,1,none⟩=false∧w.frozen? ⟨b,2,none⟩=false∧b<w.heap.size:=by
  obtain⟨_,g,cap,h2,_⟩:=h;exact⟨by rw[h2.cell];rfl,by rw[h2.cell];rfl,h2.frozen _,h2.frozen _,h2.lt⟩
theorem fz {w:World} {B b:Nat} {st:fK} {f:Bool} {at_:Int} (q:BM B w0 w) (c:Calls Tryz.prog fn av w (Mo w B b v st f at_)) (k:∀w',BM B w0 w'→Hid (eT w' B b st f at_)→w'.cell? ⟨b,1,none⟩=some (.bool f)→w'.cell? ⟨b,2,none⟩=some (.int .i64 at_)→w'.frozen? ⟨b,1,none⟩=false→w'.frozen? ⟨b,2,none⟩=false→b<w'.heap.size→Q (.returned v) w'):Calls Tryz.prog fn av w Q:=
  c.mono (by
    rintro e w' ⟨rfl,hm,hb⟩;obtain⟨x0,x1,x2,x3,x4⟩:=hm.cells;exact k w' (q.trans hb) (ac hm) x0 x1 x2 x3 x4)
theorem jO (d:UInt8) (m:Int) (w:World) (hm:m=fg d) (h:eT w B b st f at_) (hne:st≠[]) (hl:st.length≤100000) :
    Calls Tryz.prog 190 #[.pointer (some ⟨b,0,none⟩),.int .i64 m] w (Mo w B b (.tuple #[]) ((d,at_)::st) f at_):=by
  subst hm;exact LX B b st f at_ d w h hne (by omega)
theorem jY (p:Int) (c d:UInt8) (m:Int) (w:World) (hm:m=fg d) (h:eT w B b ((c,p)::st) f at_) :
    Calls Tryz.prog 157 #[.pointer (some ⟨b,0,none⟩),.int .i64 m] w (Mo w B b (.tuple #[]) ((d,p)::st) f at_):=by
  subst hm;exact Ha B b st f at_ p c d w h
theorem FX (h:eT w B b st f at_) (hne:st≠[]) (hl:st.length≤100000) :
    lu 207 92 w B b (.bool true) ((88,at_)::st) f at_:=by
  obtain⟨x0,x1,x2,x3,x4⟩:=h.cells;have HM:=ac h;clear h;go_enter Tryz.func207,Tryz.ntmps207
  go_wp2_with (first
    | (go_at_call 190;with_reducible refine fz (BM.refl _ _) (jO B b _ _ _ 88 13 _ rfl HM.out hne hl) fun w1 q1 HM1 x0 x1 x2 x3 x4=>?_))
  go_ret;exact eH HM1.out q1 rfl rfl
theorem FY (h:eT w B b st f at_) (hne:st≠[]) (hl:st.length≤100000) :
    lu 207 36 w B b (.bool true) ((76,at_)::st) f at_:=by
  obtain⟨x0,x1,x2,x3,x4⟩:=h.cells;have HM:=ac h;clear h;go_enter Tryz.func207,Tryz.ntmps207
  go_wp2_with (first
    | (go_at_call 190;with_reducible refine fz (BM.refl _ _) (jO B b _ _ _ 76 12 _ rfl HM.out hne hl) fun w1 q1 HM1 x0 x1 x2 x3 x4=>?_))
  go_ret;exact eH HM1.out q1 rfl rfl
theorem FW (h:eT w B b st f at_) (hne:st≠[]) (hl:st.length≤100000) :
    lu 207 96 w B b (.bool true) ((66,at_)::st) f at_:=by
  obtain⟨x0,x1,x2,x3,x4⟩:=h.cells;have HM:=ac h;clear h;go_enter Tryz.func207,Tryz.ntmps207
  go_wp2_with (first
    | (go_at_call 190;with_reducible refine fz (BM.refl _ _) (jO B b _ _ _ 66 6 _ rfl HM.out hne hl) fun w1 q1 HM1 x0 x1 x2 x3 x4=>?_))
  go_ret;exact eH HM1.out q1 rfl rfl
theorem iX (h:eT w B b st f at_) (h92:((c.toNat:Int)==92)=false) (h36:((c.toNat:Int)==36)=false) (h96:((c.toNat:Int)==96)=false) :
    lu 207 c w B b (.bool false) st f at_:=by
  obtain⟨x0,x1,x2,x3,x4⟩:=h.cells;have HM:=ac h;clear h;go_enter Tryz.func207,Tryz.ntmps207;go_wp2;go_ret;exact eH HM.out (BM.refl _ _) rfl rfl
theorem oG (c d:UInt8) (w:World) (h:eT w B b st f at_) (hne:st≠[]) (hl:st.length≤100000) (hd:pg c=[d]) :
    lu 207 c w B b (.bool true) ((d,at_)::st) f at_:=by
  have hc:(c=92∧d=88)∨(c=36∧d=76)∨(c=96∧d=66):=by
    have:=gh (fun c=>(c==92&&pg c==[88])||(c==36&&pg c==[76])||(c==96&&pg c==[66])||pg c==[]) (by decide +kernel) c
    simp[hd] at this;simpa [or_assoc] using this
  rcases hc with ⟨rfl,rfl⟩|⟨rfl,rfl⟩|⟨rfl,rfl⟩
  ·exact FX B b st f at_ w h hne hl
  ·exact FY B b st f at_ w h hne hl
  ·exact FW B b st f at_ w h hne hl
theorem rR (x c d:UInt8) (f:Bool) (at_:Int) (w:World) (h:eT w B b ((x,p)::r) f at_) (hl:r.length≤99990) (hd:pg c=[d]) :
    gF 191 m c w B b (.tuple #[]) ((d,at_)::(x,p)::r) f at_:=by
  obtain⟨x0,x1,x2,x3,x4⟩:=h.cells;have HM:=ac h;clear h;go_enter Tryz.func191,Tryz.ntmps191
  go_wp2_with (first
    | (go_at_call 207;refine fz (BM.refl _ _) (oG B b _ _ _ _ _ _ HM.out (by simp) (by simp;omega) hd) fun w1 q1 HM1 x0 x1 x2 x3 x4=>?_))
  all_goals go_returns
  all_goals exact eH HM1.out q1 rfl rfl
theorem Lc (x:UInt8) (f:Bool) (at_:Int) (w:World) (h:eT w B b ((x,p)::r) f at_) (hl:r.length≤99990) :
    gF 191 m 40 w B b (.tuple #[]) ((82,at_)::(x,p)::r) f at_:=by
  obtain⟨x0,x1,x2,x3,x4⟩:=h.cells;have HM:=ac h;clear h;go_enter Tryz.func191,Tryz.ntmps191
  go_wp2_with (first
    | (go_at_call 207;refine fz (BM.refl _ _) (iX B b _ 40 _ _ _ HM.out (by decide) (by decide) (by decide)) fun w1 q1 HM1 x0 x1 x2 x3 x4=>?_)
    | (go_at_call 190;with_reducible refine fz q1 (jO B b _ _ _ 82 10 _ rfl HM1.out (by simp) (by simp at *;omega)) fun w2 q2 HM2 x0 x1 x2 x3 x4=>?_))
  all_goals go_returns
  all_goals exact eH HM2.out q2 rfl rfl
theorem Hn (h:eT w B b ((82,p)::r) f at_) (hl:r.length≤99990) (ht:r≠[]) :
    gF 191 10 41 w B b (.tuple #[]) r f at_:=by
  obtain⟨x0,x1,x2,x3,x4⟩:=h.cells;have HM:=ac h;clear h;go_enter Tryz.func191,Tryz.ntmps191
  go_wp2_with (first
    | (go_at_call 207;refine fz (BM.refl _ _) (iX B b _ 41 _ _ _ HM.out (by decide) (by decide) (by decide)) fun w1 q1 HM1 x0 x1 x2 x3 x4=>?_)
    | (go_at_call 158;with_reducible refine fz q1 (jn B b _ _ _ _ _ _ HM1.out ht) fun w2 q2 HM2 x0 x1 x2 x3 x4=>?_))
  all_goals go_returns
  all_goals exact eH HM2.out q2 rfl rfl
theorem Hp (h:eT w B b ((65,p)::r) f at_) (hl:r.length≤99990) :
    gF 191 9 41 w B b (.tuple #[]) ((69,p)::r) f at_:=by
  obtain⟨x0,x1,x2,x3,x4⟩:=h.cells;have HM:=ac h;clear h;go_enter Tryz.func191,Tryz.ntmps191
  go_wp2_with (first
    | (go_at_call 207;refine fz (BM.refl _ _) (iX B b _ 41 _ _ _ HM.out (by decide) (by decide) (by decide)) fun w1 q1 HM1 x0 x1 x2 x3 x4=>?_)
    | (go_at_call 157;with_reducible refine fz q1 (jY B b _ _ _ _ _ 69 11 _ rfl HM1.out) fun w2 q2 HM2 x0 x1 x2 x3 x4=>?_))
  all_goals go_returns
  all_goals exact eH HM2.out q2 rfl rfl
theorem K8 (x c:UInt8) (f:Bool) (at_:Int) (w:World) (h:eT w B b ((x,p)::r) f at_) (hl:r.length≤99990) (h92:((c.toNat:Int)==92)=false) (h36:((c.toNat:Int)==36)=false) (h96:((c.toNat:Int)==96)=false) (hc40:((c.toNat:Int)==40)=false) (hc41:((c.toNat:Int)==41)=false) :
    gF 191 m c w B b (.tuple #[]) ((x,p)::r) f at_:=by
  obtain⟨x0,x1,x2,x3,x4⟩:=h.cells;have HM:=ac h;clear h;go_enter Tryz.func191,Tryz.ntmps191
  go_wp2_with (first
    | (go_at_call 207;refine fz (BM.refl _ _) (iX B b _ _ _ _ _ HM.out h92 h36 h96) fun w1 q1 HM1 x0 x1 x2 x3 x4=>?_))
  all_goals go_returns
  all_goals exact eH HM1.out q1 rfl rfl
theorem mN (x c d:UInt8) (f:Bool) (at_:Int) (w:World) (h:eT w B b ((x,p)::r) f at_) (hl:r.length≤99990) (hd:pg c=[d]) :
    gF 192 m c w B b (.tuple #[]) ((d,at_)::(x,p)::r) f at_:=by
  obtain⟨x0,x1,x2,x3,x4⟩:=h.cells;have HM:=ac h;clear h;go_enter Tryz.func192,Tryz.ntmps192
  go_wp2_with (first
    | (go_at_call 207;refine fz (BM.refl _ _) (oG B b _ _ _ _ _ _ HM.out (by simp) (by simp;omega) hd) fun w1 q1 HM1 x0 x1 x2 x3 x4=>?_))
  all_goals go_returns
  all_goals exact eH HM1.out q1 rfl rfl
theorem EG (h:eT w B b ((68,p)::r) f at_) (hl:r.length≤99990) (ht:r≠[]) :
    gF 192 5 34 w B b (.tuple #[]) r f at_:=by
  obtain⟨x0,x1,x2,x3,x4⟩:=h.cells;have HM:=ac h;clear h;go_enter Tryz.func192,Tryz.ntmps192
  go_wp2_with (first
    | (go_at_call 207;refine fz (BM.refl _ _) (iX B b _ 34 _ _ _ HM.out (by decide) (by decide) (by decide)) fun w1 q1 HM1 x0 x1 x2 x3 x4=>?_)
    | (go_at_call 158;with_reducible refine fz q1 (jn B b _ _ _ _ _ _ HM1.out ht) fun w2 q2 HM2 x0 x1 x2 x3 x4=>?_))
  all_goals go_returns
  all_goals exact eH HM2.out q2 rfl rfl
theorem BB (x:UInt8) (f:Bool) (at_:Int) (w:World) (h:eT w B b ((x,p)::r) f at_) (hl:r.length≤99990) (hm5:(m==5)=false) :
    gF 192 m 34 w B b (.tuple #[]) ((68,at_)::(x,p)::r) f at_:=by
  obtain⟨x0,x1,x2,x3,x4⟩:=h.cells;have HM:=ac h;clear h;go_enter Tryz.func192,Tryz.ntmps192
  go_wp2_with (first
    | (go_at_call 207;refine fz (BM.refl _ _) (iX B b _ 34 _ _ _ HM.out (by decide) (by decide) (by decide)) fun w1 q1 HM1 x0 x1 x2 x3 x4=>?_)
    | (go_at_call 190;with_reducible refine fz q1 (jO B b _ _ _ 68 5 _ rfl HM1.out (by simp) (by simp at *;omega)) fun w2 q2 HM2 x0 x1 x2 x3 x4=>?_))
  all_goals go_returns
  all_goals exact eH HM2.out q2 rfl rfl
theorem xR (x:UInt8) (f:Bool) (at_:Int) (w:World) (h:eT w B b ((x,p)::r) f at_) (hl:r.length≤99990) (hm5:(m==5)=false) (hm5n:(m != 5)=true) (ht:r≠[]) :
    gF 192 m 125 w B b (.tuple #[]) r f at_:=by
  obtain⟨x0,x1,x2,x3,x4⟩:=h.cells;have HM:=ac h;clear h;go_enter Tryz.func192,Tryz.ntmps192
  go_wp2_with (first
    | (go_at_call 207;refine fz (BM.refl _ _) (iX B b _ 125 _ _ _ HM.out (by decide) (by decide) (by decide)) fun w1 q1 HM1 x0 x1 x2 x3 x4=>?_)
    | (go_at_call 158;with_reducible refine fz q1 (jn B b _ _ _ _ _ _ HM1.out ht) fun w2 q2 HM2 x0 x1 x2 x3 x4=>?_))
  all_goals go_returns
  all_goals exact eH HM2.out q2 rfl rfl
theorem EF (h:eT w B b ((86,p)::r) f at_) (hl:r.length≤99990) :
    gF 192 7 39 w B b (.tuple #[]) ((83,at_)::(86,p)::r) f at_:=by
  obtain⟨x0,x1,x2,x3,x4⟩:=h.cells;have HM:=ac h;clear h;go_enter Tryz.func192,Tryz.ntmps192
  go_wp2_with (first
    | (go_at_call 207;refine fz (BM.refl _ _) (iX B b _ 39 _ _ _ HM.out (by decide) (by decide) (by decide)) fun w1 q1 HM1 x0 x1 x2 x3 x4=>?_)
    | (go_at_call 190;with_reducible refine fz q1 (jO B b _ _ _ 83 4 _ rfl HM1.out (by simp) (by simp at *;omega)) fun w2 q2 HM2 x0 x1 x2 x3 x4=>?_))
  all_goals go_returns
  all_goals exact eH HM2.out q2 rfl rfl
theorem EE (h:eT w B b ((68,p)::r) f at_) (hl:r.length≤99990) (h92:((c.toNat:Int)==92)=false) (h36:((c.toNat:Int)==36)=false) (h96:((c.toNat:Int)==96)=false) (hc34:((c.toNat:Int)==34)=false) :
    gF 192 5 c w B b (.tuple #[]) ((68,p)::r) f at_:=by
  obtain⟨x0,x1,x2,x3,x4⟩:=h.cells;have HM:=ac h;clear h;go_enter Tryz.func192,Tryz.ntmps192
  go_wp2_with (first
    | (go_at_call 207;refine fz (BM.refl _ _) (iX B b _ _ _ _ _ HM.out h92 h36 h96) fun w1 q1 HM1 x0 x1 x2 x3 x4=>?_))
  all_goals go_returns
  all_goals exact eH HM1.out q1 rfl rfl
theorem ED (h:eT w B b ((73,p)::r) f at_) (hl:r.length≤99990) (h92:((c.toNat:Int)==92)=false) (h36:((c.toNat:Int)==36)=false) (h96:((c.toNat:Int)==96)=false) (hc34:((c.toNat:Int)==34)=false) (hc125:((c.toNat:Int)==125)=false) :
    gF 192 8 c w B b (.tuple #[]) ((73,p)::r) f at_:=by
  obtain⟨x0,x1,x2,x3,x4⟩:=h.cells;have HM:=ac h;clear h;go_enter Tryz.func192,Tryz.ntmps192
  go_wp2_with (first
    | (go_at_call 207;refine fz (BM.refl _ _) (iX B b _ _ _ _ _ HM.out h92 h36 h96) fun w1 q1 HM1 x0 x1 x2 x3 x4=>?_))
  all_goals go_returns
  all_goals exact eH HM1.out q1 rfl rfl
theorem EC (h:eT w B b ((86,p)::r) f at_) (hl:r.length≤99990) (h92:((c.toNat:Int)==92)=false) (h36:((c.toNat:Int)==36)=false) (h96:((c.toNat:Int)==96)=false) (hc34:((c.toNat:Int)==34)=false) (hc125:((c.toNat:Int)==125)=false) (hc39:((c.toNat:Int)==39)=false) :
    gF 192 7 c w B b (.tuple #[]) ((86,p)::r) f at_:=by
  obtain⟨x0,x1,x2,x3,x4⟩:=h.cells;have HM:=ac h;clear h;go_enter Tryz.func192,Tryz.ntmps192
  go_wp2_with (first
    | (go_at_call 207;refine fz (BM.refl _ _) (iX B b _ _ _ _ _ HM.out h92 h36 h96) fun w1 q1 HM1 x0 x1 x2 x3 x4=>?_))
  all_goals go_returns
  all_goals exact eH HM1.out q1 rfl rfl
theorem EO (x:UInt8) (f:Bool) (at_:Int) (w:World) (h:eT w B b ((x,p)::r) f at_) (hl:r.length≤99990) :
    gF 189 m 92 w B b (.tuple #[]) ((88,at_)::(x,p)::r) f at_:=by
  obtain⟨x0,x1,x2,x3,x4⟩:=h.cells;have HM:=ac h;clear h;go_enter Tryz.func189,Tryz.ntmps189
  go_wp2_with (first
    | (go_at_call 190;with_reducible refine fz (BM.refl _ _) (jO B b _ _ _ 88 13 _ rfl HM.out (by simp) (by simp at *;omega)) fun w1 q1 HM1 x0 x1 x2 x3 x4=>?_))
  all_goals go_returns
  all_goals first
    | exact eH HM1.out q1 rfl rfl
    | exact eH (HM1.out.setFresh _) (BM.setCell q1 HM1.out _) rfl (by first|rfl|decide|simp)
theorem EP (x:UInt8) (f:Bool) (at_:Int) (w:World) (h:eT w B b ((x,p)::r) f at_) (hl:r.length≤99990) :
    gF 189 m 39 w B b (.tuple #[]) ((83,at_)::(x,p)::r) false at_:=by
  obtain⟨x0,x1,x2,x3,x4⟩:=h.cells;have HM:=ac h;clear h;go_enter Tryz.func189,Tryz.ntmps189
  go_wp2_with (first
    | (go_at_call 190;with_reducible refine fz (BM.refl _ _) (jO B b _ _ _ 83 4 _ rfl HM.out (by simp) (by simp at *;omega)) fun w1 q1 HM1 x0 x1 x2 x3 x4=>?_)
    | (go_at_call 155;refine(jE 39 _).mono ?_;rintro e w' ⟨rfl,rfl⟩))
  all_goals go_returns
  all_goals first
    | exact eH HM1.out q1 rfl rfl
    | exact eH (HM1.out.setFresh _) (BM.setCell q1 HM1.out _) rfl (by first|rfl|decide|simp)
theorem ER (x:UInt8) (f:Bool) (at_:Int) (w:World) (h:eT w B b ((x,p)::r) f at_) (hl:r.length≤99990) :
    gF 189 m 34 w B b (.tuple #[]) ((68,at_)::(x,p)::r) false at_:=by
  obtain⟨x0,x1,x2,x3,x4⟩:=h.cells;have HM:=ac h;clear h;go_enter Tryz.func189,Tryz.ntmps189
  go_wp2_with (first
    | (go_at_call 190;with_reducible refine fz (BM.refl _ _) (jO B b _ _ _ 68 5 _ rfl HM.out (by simp) (by simp at *;omega)) fun w1 q1 HM1 x0 x1 x2 x3 x4=>?_)
    | (go_at_call 155;refine(jE 34 _).mono ?_;rintro e w' ⟨rfl,rfl⟩))
  all_goals go_returns
  all_goals first
    | exact eH HM1.out q1 rfl rfl
    | exact eH (HM1.out.setFresh _) (BM.setCell q1 HM1.out _) rfl (by first|rfl|decide|simp)
theorem EQ (x:UInt8) (f:Bool) (at_:Int) (w:World) (h:eT w B b ((x,p)::r) f at_) (hl:r.length≤99990) :
    gF 189 m 36 w B b (.tuple #[]) ((76,at_)::(x,p)::r) false at_:=by
  obtain⟨x0,x1,x2,x3,x4⟩:=h.cells;have HM:=ac h;clear h;go_enter Tryz.func189,Tryz.ntmps189
  go_wp2_with (first
    | (go_at_call 207;refine fz (BM.refl _ _) (oG B b _ _ _ 36 76 _ HM.out (by simp) (by simp;omega) (by decide)) fun w1 q1 HM1 x0 x1 x2 x3 x4=>?_)
    | (go_at_call 155;refine(jE 36 _).mono ?_;rintro e w' ⟨rfl,rfl⟩))
  all_goals go_returns
  all_goals first
    | exact eH HM1.out q1 rfl rfl
    | exact eH (HM1.out.setFresh _) (BM.setCell q1 HM1.out _) rfl (by first|rfl|decide|simp)
theorem EN (x:UInt8) (f:Bool) (at_:Int) (w:World) (h:eT w B b ((x,p)::r) f at_) (hl:r.length≤99990) :
    gF 189 m 96 w B b (.tuple #[]) ((66,at_)::(x,p)::r) false at_:=by
  obtain⟨x0,x1,x2,x3,x4⟩:=h.cells;have HM:=ac h;clear h;go_enter Tryz.func189,Tryz.ntmps189
  go_wp2_with (first
    | (go_at_call 207;refine fz (BM.refl _ _) (oG B b _ _ _ 96 66 _ HM.out (by simp) (by simp;omega) (by decide)) fun w1 q1 HM1 x0 x1 x2 x3 x4=>?_)
    | (go_at_call 155;refine(jE 96 _).mono ?_;rintro e w' ⟨rfl,rfl⟩))
  all_goals go_returns
  all_goals first
    | exact eH HM1.out q1 rfl rfl
    | exact eH (HM1.out.setFresh _) (BM.setCell q1 HM1.out _) rfl (by first|rfl|decide|simp)
theorem zX (x:UInt8) (f:Bool) (at_:Int) (w:World) (h:eT w B b ((x,p)::r) true at_) (hl:r.length≤99990) :
    gF 189 m 35 w B b (.tuple #[]) ((35,at_)::(x,p)::r) true at_:=by
  obtain⟨x0,x1,x2,x3,x4⟩:=h.cells;have HM:=ac h;clear h;go_enter Tryz.func189,Tryz.ntmps189
  go_wp2_with (first
    | (go_at_call 190;with_reducible refine fz (BM.refl _ _) (jO B b _ _ _ 35 14 _ rfl HM.out (by simp) (by simp at *;omega)) fun w1 q1 HM1 x0 x1 x2 x3 x4=>?_))
  all_goals go_returns
  all_goals first
    | exact eH HM1.out q1 rfl rfl
    | exact eH (HM1.out.setFresh _) (BM.setCell q1 HM1.out _) rfl (by first|rfl|decide|simp)
theorem zY (x:UInt8) (f:Bool) (at_:Int) (w:World) (h:eT w B b ((x,p)::r) false at_) (hl:r.length≤99990) :
    gF 189 m 35 w B b (.tuple #[]) ((x,p)::r) false at_:=by
  obtain⟨x0,x1,x2,x3,x4⟩:=h.cells;have HM:=ac h;clear h;go_enter Tryz.func189,Tryz.ntmps189
  go_wp2_with (first
    | (go_at_call 155;refine(jE 35 _).mono ?_;rintro e w' ⟨rfl,rfl⟩))
  all_goals go_returns
  all_goals first
    | exact eH HM.out (BM.refl _ _) rfl rfl
    | exact eH (HM.out.setFresh _) (BM.setCell (BM.refl _ _) HM.out _) rfl (by first|rfl|decide|simp)
theorem LS (h:eT w B b ((x,p)::r) f at_) (hl:r.length≤99990) :
    gF 189 0 40 w B b (.tuple #[]) ((x,p)::r) true at_:=by
  obtain⟨x0,x1,x2,x3,x4⟩:=h.cells;have HM:=ac h;clear h;go_enter Tryz.func189,Tryz.ntmps189
  go_wp2_with (first
    | (go_at_call 155;refine(jE 40 _).mono ?_;rintro e w' ⟨rfl,rfl⟩))
  all_goals go_returns
  all_goals first
    | exact eH HM.out (BM.refl _ _) rfl rfl
    | exact eH (HM.out.setFresh _) (BM.setCell (BM.refl _ _) HM.out _) rfl (by first|rfl|decide|simp)
theorem I9 (h:eT w B b ((x,p)::r) f at_) (hl:r.length≤99990) :
    gF 189 1 40 w B b (.tuple #[]) ((80,at_)::(x,p)::r) true at_:=by
  obtain⟨x0,x1,x2,x3,x4⟩:=h.cells;have HM:=ac h;clear h;go_enter Tryz.func189,Tryz.ntmps189
  go_wp2_with (first
    | (go_at_call 190;with_reducible refine fz (BM.refl _ _) (jO B b _ _ _ 80 2 _ rfl HM.out (by simp) (by simp at *;omega)) fun w1 q1 HM1 x0 x1 x2 x3 x4=>?_)
    | (go_at_call 155;refine(jE 40 _).mono ?_;rintro e w' ⟨rfl,rfl⟩))
  all_goals go_returns
  all_goals first
    | exact eH HM1.out q1 rfl rfl
    | exact eH (HM1.out.setFresh _) (BM.setCell q1 HM1.out _) rfl (by first|rfl|decide|simp)
theorem I8 (h:eT w B b ((x,p)::r) f at_) (hl:r.length≤99990) :
    gF 189 2 40 w B b (.tuple #[]) ((80,at_)::(x,p)::r) true at_:=by
  obtain⟨x0,x1,x2,x3,x4⟩:=h.cells;have HM:=ac h;clear h;go_enter Tryz.func189,Tryz.ntmps189
  go_wp2_with (first
    | (go_at_call 190;with_reducible refine fz (BM.refl _ _) (jO B b _ _ _ 80 2 _ rfl HM.out (by simp) (by simp at *;omega)) fun w1 q1 HM1 x0 x1 x2 x3 x4=>?_)
    | (go_at_call 155;refine(jE 40 _).mono ?_;rintro e w' ⟨rfl,rfl⟩))
  all_goals go_returns
  all_goals first
    | exact eH HM1.out q1 rfl rfl
    | exact eH (HM1.out.setFresh _) (BM.setCell q1 HM1.out _) rfl (by first|rfl|decide|simp)
theorem LQ (h:eT w B b ((x,p)::r) f at_) (hl:r.length≤99990) :
    gF 189 0 41 w B b (.tuple #[]) ((x,p)::r) true at_:=by
  obtain⟨x0,x1,x2,x3,x4⟩:=h.cells;have HM:=ac h;clear h;go_enter Tryz.func189,Tryz.ntmps189;go_wp2_with fail;all_goals go_returns
  all_goals first
    | exact eH HM.out (BM.refl _ _) rfl rfl
    | exact eH (HM.out.setFresh _) (BM.setCell (BM.refl _ _) HM.out _) rfl (by first|rfl|decide|simp)
theorem I7 (h:eT w B b ((x,p)::r) f at_) (hl:r.length≤99990) (ht:r≠[]) :
    gF 189 1 41 w B b (.tuple #[]) r false at_:=by
  obtain⟨x0,x1,x2,x3,x4⟩:=h.cells;have HM:=ac h;clear h;go_enter Tryz.func189,Tryz.ntmps189
  go_wp2_with (first
    | (go_at_call 158;with_reducible refine fz (BM.refl _ _) (jn B b _ _ _ _ _ _ HM.out ht) fun w1 q1 HM1 x0 x1 x2 x3 x4=>?_))
  all_goals go_returns
  all_goals first
    | exact eH HM1.out q1 rfl rfl
    | exact eH (HM1.out.setFresh _) (BM.setCell q1 HM1.out _) rfl (by first|rfl|decide|simp)
theorem I6 (h:eT w B b ((x,p)::r) f at_) (hl:r.length≤99990) (ht:r≠[]) :
    gF 189 2 41 w B b (.tuple #[]) r true at_:=by
  obtain⟨x0,x1,x2,x3,x4⟩:=h.cells;have HM:=ac h;clear h;go_enter Tryz.func189,Tryz.ntmps189
  go_wp2_with (first
    | (go_at_call 158;with_reducible refine fz (BM.refl _ _) (jn B b _ _ _ _ _ _ HM.out ht) fun w1 q1 HM1 x0 x1 x2 x3 x4=>?_))
  all_goals go_returns
  all_goals first
    | exact eH HM1.out q1 rfl rfl
    | exact eH (HM1.out.setFresh _) (BM.setCell q1 HM1.out _) rfl (by first|rfl|decide|simp)
theorem EM (x c:UInt8) (f:Bool) (at_:Int) (w:World) (h:eT w B b ((x,p)::r) f at_) (hl:r.length≤99990) (hc92:((c.toNat:Int)==92)=false) (hc39:((c.toNat:Int)==39)=false) (hc34:((c.toNat:Int)==34)=false) (hc96:((c.toNat:Int)==96)=false) (hc36:((c.toNat:Int)==36)=false) (hc35:((c.toNat:Int)==35)=false) (hc40:((c.toNat:Int)==40)=false) (hc41:((c.toNat:Int)==41)=false) :
    gF 189 m c w B b (.tuple #[]) ((x,p)::r) (iO c) at_:=by
  obtain⟨x0,x1,x2,x3,x4⟩:=h.cells;have HM:=ac h;clear h;go_enter Tryz.func189,Tryz.ntmps189
  go_wp2_with (first
    | (go_at_call 155;refine(jE c _).mono ?_;rintro e w' ⟨rfl,rfl⟩))
  all_goals go_returns
  all_goals first
    | exact eH HM.out (BM.refl _ _) rfl rfl
    | exact eH (HM.out.setFresh _) (BM.setCell (BM.refl _ _) HM.out _) rfl (by first|rfl|decide|simp)
theorem bf (b v:UInt8) (h:b≠v):((b.toNat:Int)==(v.toNat:Int))=false:=by
  rw[aK];intro e;exact h (dE.1 (by omega))
theorem nn {b v:UInt8} (h:b≠v):b.toNat≠v.toNat:=fun e=>h (dE.1 e)
theorem Hl (r:fK) (p:Int) (b:UInt8) (f:Bool) (at_:Int) (w:World) (h:eT w B b0 ((65,p)::r) f at_) (hl:r.length≤99990) (ht:r≠[]) :
    gF 191 9 b w B b0 (.tuple #[]) (dZ ((65,p)::r) f 65 b at_).1 (dZ ((65,p)::r) f 65 b at_).2 at_:=by
  rcases aS (b=92) with rfl|hb92
  ·have e:dZ ((65,p)::r) f 65 92 at_=(((88,at_)::(65,p)::r),f):=by simp[dZ,ez]
   rw[e];exact rR B b0 r p 9 65 92 88 f at_ w h hl (by decide)
  have n92:b.toNat≠92:=nn hb92;rcases aS (b=36) with rfl|hb36
  ·have e:dZ ((65,p)::r) f 65 36 at_=(((76,at_)::(65,p)::r),f):=by simp[dZ,ez]
   rw[e];exact rR B b0 r p 9 65 36 76 f at_ w h hl (by decide)
  have n36:b.toNat≠36:=nn hb36;rcases aS (b=96) with rfl|hb96
  ·have e:dZ ((65,p)::r) f 65 96 at_=(((66,at_)::(65,p)::r),f):=by simp[dZ,ez]
   rw[e];exact rR B b0 r p 9 65 96 66 f at_ w h hl (by decide)
  have n96:b.toNat≠96:=nn hb96;rcases aS (b=40) with rfl|hb40
  ·have e:dZ ((65,p)::r) f 65 40 at_=(((82,at_)::(65,p)::r),f):=by simp[dZ,ez]
   rw[e];exact Lc B b0 r p 9 65 f at_ w h hl
  have n40:b.toNat≠40:=nn hb40;rcases aS (b=41) with rfl|hb41
  ·have e:dZ ((65,p)::r) f 65 41 at_=(((69,p)::r),f):=by simp[dZ,ez]
   rw[e];exact Hp B b0 r p f at_ w h hl
  have n41:b.toNat≠41:=nn hb41;have e:dZ ((65,p)::r) f 65 b at_=(((65,p)::r),f):=by simp[dZ,ez,n92,n36,n96,n40,n41]
  rw[e];exact K8 B b0 r p 9 65 b f at_ w h hl (bf b 92 hb92) (bf b 36 hb36) (bf b 96 hb96) (bf b 40 hb40) (bf b 41 hb41)
theorem Hk (r:fK) (p:Int) (b:UInt8) (f:Bool) (at_:Int) (w:World) (h:eT w B b0 ((82,p)::r) f at_) (hl:r.length≤99990) (ht:r≠[]) :
    gF 191 10 b w B b0 (.tuple #[]) (dZ ((82,p)::r) f 82 b at_).1 (dZ ((82,p)::r) f 82 b at_).2 at_:=by
  rcases aS (b=92) with rfl|hb92
  ·have e:dZ ((82,p)::r) f 82 92 at_=(((88,at_)::(82,p)::r),f):=by simp[dZ,ez]
   rw[e];exact rR B b0 r p 10 82 92 88 f at_ w h hl (by decide)
  have n92:b.toNat≠92:=nn hb92;rcases aS (b=36) with rfl|hb36
  ·have e:dZ ((82,p)::r) f 82 36 at_=(((76,at_)::(82,p)::r),f):=by simp[dZ,ez]
   rw[e];exact rR B b0 r p 10 82 36 76 f at_ w h hl (by decide)
  have n36:b.toNat≠36:=nn hb36;rcases aS (b=96) with rfl|hb96
  ·have e:dZ ((82,p)::r) f 82 96 at_=(((66,at_)::(82,p)::r),f):=by simp[dZ,ez]
   rw[e];exact rR B b0 r p 10 82 96 66 f at_ w h hl (by decide)
  have n96:b.toNat≠96:=nn hb96;rcases aS (b=40) with rfl|hb40
  ·have e:dZ ((82,p)::r) f 82 40 at_=(((82,at_)::(82,p)::r),f):=by simp[dZ,ez]
   rw[e];exact Lc B b0 r p 10 82 f at_ w h hl
  have n40:b.toNat≠40:=nn hb40;rcases aS (b=41) with rfl|hb41
  ·have e:dZ ((82,p)::r) f 82 41 at_=(r,f):=by simp[dZ,ez]
   rw[e];exact Hn B b0 r p f at_ w h hl ht
  have n41:b.toNat≠41:=nn hb41;have e:dZ ((82,p)::r) f 82 b at_=(((82,p)::r),f):=by simp[dZ,ez,n92,n36,n96,n40,n41]
  rw[e];exact K8 B b0 r p 10 82 b f at_ w h hl (bf b 92 hb92) (bf b 36 hb36) (bf b 96 hb96) (bf b 40 hb40) (bf b 41 hb41)
theorem CP (r:fK) (p:Int) (b:UInt8) (f:Bool) (at_:Int) (w:World) (h:eT w B b0 ((68,p)::r) f at_) (hl:r.length≤99990) (ht:r≠[]) :
    gF 192 5 b w B b0 (.tuple #[]) (dZ ((68,p)::r) f 68 b at_).1 (dZ ((68,p)::r) f 68 b at_).2 at_:=by
  rcases aS (b=92) with rfl|hb92
  ·have e:dZ ((68,p)::r) f 68 92 at_=(((88,at_)::(68,p)::r),f):=by simp[dZ,ez]
   rw[e];exact mN B b0 r p 5 68 92 88 f at_ w h hl (by decide)
  have n92:b.toNat≠92:=nn hb92;rcases aS (b=36) with rfl|hb36
  ·have e:dZ ((68,p)::r) f 68 36 at_=(((76,at_)::(68,p)::r),f):=by simp[dZ,ez]
   rw[e];exact mN B b0 r p 5 68 36 76 f at_ w h hl (by decide)
  have n36:b.toNat≠36:=nn hb36;rcases aS (b=96) with rfl|hb96
  ·have e:dZ ((68,p)::r) f 68 96 at_=(((66,at_)::(68,p)::r),f):=by simp[dZ,ez]
   rw[e];exact mN B b0 r p 5 68 96 66 f at_ w h hl (by decide)
  have n96:b.toNat≠96:=nn hb96;rcases aS (b=34) with rfl|hb34
  ·have e:dZ ((68,p)::r) f 68 34 at_=(r,f):=by simp[dZ,ez]
   rw[e];exact EG B b0 r p f at_ w h hl ht
  have n34:b.toNat≠34:=nn hb34;have e:dZ ((68,p)::r) f 68 b at_=(((68,p)::r),f):=by simp[dZ,ez,n92,n36,n96,n34]
  rw[e];exact EE B b0 r p b f at_ w h hl (bf b 92 hb92) (bf b 36 hb36) (bf b 96 hb96) (bf b 34 hb34)
theorem CO (r:fK) (p:Int) (b:UInt8) (f:Bool) (at_:Int) (w:World) (h:eT w B b0 ((73,p)::r) f at_) (hl:r.length≤99990) (ht:r≠[]) :
    gF 192 8 b w B b0 (.tuple #[]) (dZ ((73,p)::r) f 73 b at_).1 (dZ ((73,p)::r) f 73 b at_).2 at_:=by
  rcases aS (b=92) with rfl|hb92
  ·have e:dZ ((73,p)::r) f 73 92 at_=(((88,at_)::(73,p)::r),f):=by simp[dZ,ez]
   rw[e];exact mN B b0 r p 8 73 92 88 f at_ w h hl (by decide)
  have n92:b.toNat≠92:=nn hb92;rcases aS (b=36) with rfl|hb36
  ·have e:dZ ((73,p)::r) f 73 36 at_=(((76,at_)::(73,p)::r),f):=by simp[dZ,ez]
   rw[e];exact mN B b0 r p 8 73 36 76 f at_ w h hl (by decide)
  have n36:b.toNat≠36:=nn hb36;rcases aS (b=96) with rfl|hb96
  ·have e:dZ ((73,p)::r) f 73 96 at_=(((66,at_)::(73,p)::r),f):=by simp[dZ,ez]
   rw[e];exact mN B b0 r p 8 73 96 66 f at_ w h hl (by decide)
  have n96:b.toNat≠96:=nn hb96;rcases aS (b=34) with rfl|hb34
  ·have e:dZ ((73,p)::r) f 73 34 at_=(((68,at_)::(73,p)::r),f):=by simp[dZ,ez]
   rw[e];exact BB B b0 r p 8 73 f at_ w h hl rfl
  have n34:b.toNat≠34:=nn hb34;rcases aS (b=125) with rfl|hb125
  ·have e:dZ ((73,p)::r) f 73 125 at_=(r,f):=by simp[dZ,ez]
   rw[e];exact xR B b0 r p 8 73 f at_ w h hl rfl rfl ht
  have n125:b.toNat≠125:=nn hb125;have e:dZ ((73,p)::r) f 73 b at_=(((73,p)::r),f):=by simp[dZ,ez,n92,n36,n96,n34,n125]
  rw[e];exact ED B b0 r p b f at_ w h hl (bf b 92 hb92) (bf b 36 hb36) (bf b 96 hb96) (bf b 34 hb34) (bf b 125 hb125)
theorem CN (r:fK) (p:Int) (b:UInt8) (f:Bool) (at_:Int) (w:World) (h:eT w B b0 ((86,p)::r) f at_) (hl:r.length≤99990) (ht:r≠[]) :
    gF 192 7 b w B b0 (.tuple #[]) (dZ ((86,p)::r) f 86 b at_).1 (dZ ((86,p)::r) f 86 b at_).2 at_:=by
  rcases aS (b=92) with rfl|hb92
  ·have e:dZ ((86,p)::r) f 86 92 at_=(((88,at_)::(86,p)::r),f):=by simp[dZ,ez]
   rw[e];exact mN B b0 r p 7 86 92 88 f at_ w h hl (by decide)
  have n92:b.toNat≠92:=nn hb92;rcases aS (b=36) with rfl|hb36
  ·have e:dZ ((86,p)::r) f 86 36 at_=(((76,at_)::(86,p)::r),f):=by simp[dZ,ez]
   rw[e];exact mN B b0 r p 7 86 36 76 f at_ w h hl (by decide)
  have n36:b.toNat≠36:=nn hb36;rcases aS (b=96) with rfl|hb96
  ·have e:dZ ((86,p)::r) f 86 96 at_=(((66,at_)::(86,p)::r),f):=by simp[dZ,ez]
   rw[e];exact mN B b0 r p 7 86 96 66 f at_ w h hl (by decide)
  have n96:b.toNat≠96:=nn hb96;rcases aS (b=34) with rfl|hb34
  ·have e:dZ ((86,p)::r) f 86 34 at_=(((68,at_)::(86,p)::r),f):=by simp[dZ,ez]
   rw[e];exact BB B b0 r p 7 86 f at_ w h hl rfl
  have n34:b.toNat≠34:=nn hb34;rcases aS (b=125) with rfl|hb125
  ·have e:dZ ((86,p)::r) f 86 125 at_=(r,f):=by simp[dZ,ez]
   rw[e];exact xR B b0 r p 7 86 f at_ w h hl rfl rfl ht
  have n125:b.toNat≠125:=nn hb125;rcases aS (b=39) with rfl|hb39
  ·have e:dZ ((86,p)::r) f 86 39 at_=(((83,at_)::(86,p)::r),f):=by simp[dZ,ez]
   rw[e];exact EF B b0 r p f at_ w h hl
  have n39:b.toNat≠39:=nn hb39;have e:dZ ((86,p)::r) f 86 b at_=(((86,p)::r),f):=by simp[dZ,ez,n92,n36,n96,n34,n125,n39]
  rw[e];exact EC B b0 r p b f at_ w h hl (bf b 92 hb92) (bf b 36 hb36) (bf b 96 hb96) (bf b 34 hb34) (bf b 125 hb125) (bf b 39 hb39)
theorem zU (r:fK) (p:Int) (b:UInt8) (f:Bool) (at_:Int) (w:World) (h:eT w B b0 ((84,p)::r) f at_) (hl:r.length≤99990) :
    gF 189 0 b w B b0 (.tuple #[]) (dZ ((84,p)::r) f 84 b at_).1 (dZ ((84,p)::r) f 84 b at_).2 at_:=by
  rcases aS (b=92) with rfl|hb92
  ·have e:dZ ((84,p)::r) f 84 92 at_=(((88,at_)::(84,p)::r),f):=by simp[dZ,ez]
   rw[e];exact EO B b0 r p 0 84 f at_ w h hl
  have n92:b.toNat≠92:=nn hb92;rcases aS (b=39) with rfl|hb39
  ·have e:dZ ((84,p)::r) f 84 39 at_=(((83,at_)::(84,p)::r),false):=by simp[dZ,ez]
   rw[e];exact EP B b0 r p 0 84 f at_ w h hl
  have n39:b.toNat≠39:=nn hb39;rcases aS (b=34) with rfl|hb34
  ·have e:dZ ((84,p)::r) f 84 34 at_=(((68,at_)::(84,p)::r),false):=by simp[dZ,ez]
   rw[e];exact ER B b0 r p 0 84 f at_ w h hl
  have n34:b.toNat≠34:=nn hb34;rcases aS (b=96) with rfl|hb96
  ·have e:dZ ((84,p)::r) f 84 96 at_=(((66,at_)::(84,p)::r),false):=by simp[dZ,ez]
   rw[e];exact EN B b0 r p 0 84 f at_ w h hl
  have n96:b.toNat≠96:=nn hb96;rcases aS (b=36) with rfl|hb36
  ·have e:dZ ((84,p)::r) f 84 36 at_=(((76,at_)::(84,p)::r),false):=by simp[dZ,ez]
   rw[e];exact EQ B b0 r p 0 84 f at_ w h hl
  have n36:b.toNat≠36:=nn hb36;rcases aS (b=40) with rfl|hb40
  ·have e:dZ ((84,p)::r) f 84 40 at_=(((84,p)::r),true):=by simp[dZ,ez]
   rw[e];exact LS B b0 r p 84 f at_ w h hl
  have n40:b.toNat≠40:=nn hb40;rcases aS (b=41) with rfl|hb41
  ·have e:dZ ((84,p)::r) f 84 41 at_=(((84,p)::r),true):=by simp[dZ,ez]
   rw[e];exact LQ B b0 r p 84 f at_ w h hl
  have n41:b.toNat≠41:=nn hb41;rcases aS (b=35) with rfl|hb35
  ·cases f
   ·have e:dZ ((84,p)::r) false 84 35 at_=(((84,p)::r),false):=by simp[dZ,ez,iO,fI]
    rw[e];exact zY B b0 r p 0 84 false at_ w h hl
   ·have e:dZ ((84,p)::r) true 84 35 at_=(((35,at_)::(84,p)::r),true):=by simp[dZ,ez]
    rw[e];exact zX B b0 r p 0 84 true at_ w h hl
  have n35:b.toNat≠35:=nn hb35;have e:dZ ((84,p)::r) f 84 b at_=(((84,p)::r),iO b):=by simp[dZ,ez,n92,n39,n34,n96,n36,n40,n41,n35]
  rw[e];exact EM B b0 r p 0 84 b f at_ w h hl (bf b 92 hb92) (bf b 39 hb39) (bf b 34 hb34) (bf b 96 hb96) (bf b 36 hb36) (bf b 35 hb35) (bf b 40 hb40) (bf b 41 hb41)
theorem zW (r:fK) (p:Int) (b:UInt8) (f:Bool) (at_:Int) (w:World) (h:eT w B b0 ((67,p)::r) f at_) (hl:r.length≤99990) (ht:r≠[]) :
    gF 189 1 b w B b0 (.tuple #[]) (dZ ((67,p)::r) f 67 b at_).1 (dZ ((67,p)::r) f 67 b at_).2 at_:=by
  rcases aS (b=92) with rfl|hb92
  ·have e:dZ ((67,p)::r) f 67 92 at_=(((88,at_)::(67,p)::r),f):=by simp[dZ,ez]
   rw[e];exact EO B b0 r p 1 67 f at_ w h hl
  have n92:b.toNat≠92:=nn hb92;rcases aS (b=39) with rfl|hb39
  ·have e:dZ ((67,p)::r) f 67 39 at_=(((83,at_)::(67,p)::r),false):=by simp[dZ,ez]
   rw[e];exact EP B b0 r p 1 67 f at_ w h hl
  have n39:b.toNat≠39:=nn hb39;rcases aS (b=34) with rfl|hb34
  ·have e:dZ ((67,p)::r) f 67 34 at_=(((68,at_)::(67,p)::r),false):=by simp[dZ,ez]
   rw[e];exact ER B b0 r p 1 67 f at_ w h hl
  have n34:b.toNat≠34:=nn hb34;rcases aS (b=96) with rfl|hb96
  ·have e:dZ ((67,p)::r) f 67 96 at_=(((66,at_)::(67,p)::r),false):=by simp[dZ,ez]
   rw[e];exact EN B b0 r p 1 67 f at_ w h hl
  have n96:b.toNat≠96:=nn hb96;rcases aS (b=36) with rfl|hb36
  ·have e:dZ ((67,p)::r) f 67 36 at_=(((76,at_)::(67,p)::r),false):=by simp[dZ,ez]
   rw[e];exact EQ B b0 r p 1 67 f at_ w h hl
  have n36:b.toNat≠36:=nn hb36;rcases aS (b=40) with rfl|hb40
  ·have e:dZ ((67,p)::r) f 67 40 at_=(((80,at_)::(67,p)::r),true):=by simp[dZ,ez]
   rw[e];exact I9 B b0 r p 67 f at_ w h hl
  have n40:b.toNat≠40:=nn hb40;rcases aS (b=41) with rfl|hb41
  ·have e:dZ ((67,p)::r) f 67 41 at_=(r,false):=by simp[dZ,ez]
   rw[e];exact I7 B b0 r p 67 f at_ w h hl ht
  have n41:b.toNat≠41:=nn hb41;rcases aS (b=35) with rfl|hb35
  ·cases f
   ·have e:dZ ((67,p)::r) false 67 35 at_=(((67,p)::r),false):=by simp[dZ,ez,iO,fI]
    rw[e];exact zY B b0 r p 1 67 false at_ w h hl
   ·have e:dZ ((67,p)::r) true 67 35 at_=(((35,at_)::(67,p)::r),true):=by simp[dZ,ez]
    rw[e];exact zX B b0 r p 1 67 true at_ w h hl
  have n35:b.toNat≠35:=nn hb35;have e:dZ ((67,p)::r) f 67 b at_=(((67,p)::r),iO b):=by simp[dZ,ez,n92,n39,n34,n96,n36,n40,n41,n35]
  rw[e];exact EM B b0 r p 1 67 b f at_ w h hl (bf b 92 hb92) (bf b 39 hb39) (bf b 34 hb34) (bf b 96 hb96) (bf b 36 hb36) (bf b 35 hb35) (bf b 40 hb40) (bf b 41 hb41)
theorem zV (r:fK) (p:Int) (b:UInt8) (f:Bool) (at_:Int) (w:World) (h:eT w B b0 ((80,p)::r) f at_) (hl:r.length≤99990) (ht:r≠[]) :
    gF 189 2 b w B b0 (.tuple #[]) (dZ ((80,p)::r) f 80 b at_).1 (dZ ((80,p)::r) f 80 b at_).2 at_:=by
  rcases aS (b=92) with rfl|hb92
  ·have e:dZ ((80,p)::r) f 80 92 at_=(((88,at_)::(80,p)::r),f):=by simp[dZ,ez]
   rw[e];exact EO B b0 r p 2 80 f at_ w h hl
  have n92:b.toNat≠92:=nn hb92;rcases aS (b=39) with rfl|hb39
  ·have e:dZ ((80,p)::r) f 80 39 at_=(((83,at_)::(80,p)::r),false):=by simp[dZ,ez]
   rw[e];exact EP B b0 r p 2 80 f at_ w h hl
  have n39:b.toNat≠39:=nn hb39;rcases aS (b=34) with rfl|hb34
  ·have e:dZ ((80,p)::r) f 80 34 at_=(((68,at_)::(80,p)::r),false):=by simp[dZ,ez]
   rw[e];exact ER B b0 r p 2 80 f at_ w h hl
  have n34:b.toNat≠34:=nn hb34;rcases aS (b=96) with rfl|hb96
  ·have e:dZ ((80,p)::r) f 80 96 at_=(((66,at_)::(80,p)::r),false):=by simp[dZ,ez]
   rw[e];exact EN B b0 r p 2 80 f at_ w h hl
  have n96:b.toNat≠96:=nn hb96;rcases aS (b=36) with rfl|hb36
  ·have e:dZ ((80,p)::r) f 80 36 at_=(((76,at_)::(80,p)::r),false):=by simp[dZ,ez]
   rw[e];exact EQ B b0 r p 2 80 f at_ w h hl
  have n36:b.toNat≠36:=nn hb36;rcases aS (b=40) with rfl|hb40
  ·have e:dZ ((80,p)::r) f 80 40 at_=(((80,at_)::(80,p)::r),true):=by simp[dZ,ez]
   rw[e];exact I8 B b0 r p 80 f at_ w h hl
  have n40:b.toNat≠40:=nn hb40;rcases aS (b=41) with rfl|hb41
  ·have e:dZ ((80,p)::r) f 80 41 at_=(r,true):=by simp[dZ,ez]
   rw[e];exact I6 B b0 r p 80 f at_ w h hl ht
  have n41:b.toNat≠41:=nn hb41;rcases aS (b=35) with rfl|hb35
  ·cases f
   ·have e:dZ ((80,p)::r) false 80 35 at_=(((80,p)::r),false):=by simp[dZ,ez,iO,fI]
    rw[e];exact zY B b0 r p 2 80 false at_ w h hl
   ·have e:dZ ((80,p)::r) true 80 35 at_=(((35,at_)::(80,p)::r),true):=by simp[dZ,ez]
    rw[e];exact zX B b0 r p 2 80 true at_ w h hl
  have n35:b.toNat≠35:=nn hb35;have e:dZ ((80,p)::r) f 80 b at_=(((80,p)::r),iO b):=by simp[dZ,ez,n92,n39,n34,n96,n36,n40,n41,n35]
  rw[e];exact EM B b0 r p 2 80 b f at_ w h hl (bf b 92 hb92) (bf b 39 hb39) (bf b 34 hb34) (bf b 96 hb96) (bf b 36 hb36) (bf b 35 hb35) (bf b 40 hb40) (bf b 41 hb41)
theorem Nn (h:eT w B b ((84,p)::r) f at_) (hl:r.length≤99990) :
    gF 159 0 c w B b (.tuple #[]) (dZ ((84,p)::r) f 84 c at_).1 (dZ ((84,p)::r) f 84 c at_).2 at_:=by
  obtain⟨x0,x1,x2,x3,x4⟩:=h.cells;have HM:=ac h;clear h;go_enter Tryz.func159,Tryz.ntmps159
  go_wp2_with (first
    | (go_at_call 189;refine fz (BM.refl _ _) (zU B b r p _ _ _ _ HM.out hl) fun w1 q1 HM1 x0 x1 x2 x3 x4=>?_))
  all_goals go_returns
  all_goals first
    | exact eH HM1.out q1 rfl rfl
    | exact eH (HM1.out.setFresh _) (BM.setCell q1 HM1.out _) rfl rfl
theorem Ns (h:eT w B b ((67,p)::r) f at_) (hl:r.length≤99990) (ht:r≠[]) :
    gF 159 1 c w B b (.tuple #[]) (dZ ((67,p)::r) f 67 c at_).1 (dZ ((67,p)::r) f 67 c at_).2 at_:=by
  obtain⟨x0,x1,x2,x3,x4⟩:=h.cells;have HM:=ac h;clear h;go_enter Tryz.func159,Tryz.ntmps159
  go_wp2_with (first
    | (go_at_call 189;refine fz (BM.refl _ _) (zW B b r p _ _ _ _ HM.out hl ht) fun w1 q1 HM1 x0 x1 x2 x3 x4=>?_))
  all_goals go_returns
  all_goals first
    | exact eH HM1.out q1 rfl rfl
    | exact eH (HM1.out.setFresh _) (BM.setCell q1 HM1.out _) rfl rfl
theorem Np (h:eT w B b ((80,p)::r) f at_) (hl:r.length≤99990) (ht:r≠[]) :
    gF 159 2 c w B b (.tuple #[]) (dZ ((80,p)::r) f 80 c at_).1 (dZ ((80,p)::r) f 80 c at_).2 at_:=by
  obtain⟨x0,x1,x2,x3,x4⟩:=h.cells;have HM:=ac h;clear h;go_enter Tryz.func159,Tryz.ntmps159
  go_wp2_with (first
    | (go_at_call 189;refine fz (BM.refl _ _) (zV B b r p _ _ _ _ HM.out hl ht) fun w1 q1 HM1 x0 x1 x2 x3 x4=>?_))
  all_goals go_returns
  all_goals first
    | exact eH HM1.out q1 rfl rfl
    | exact eH (HM1.out.setFresh _) (BM.setCell q1 HM1.out _) rfl rfl
theorem Nt (h:eT w B b ((65,p)::r) f at_) (hl:r.length≤99990) (ht:r≠[]) :
    gF 159 9 c w B b (.tuple #[]) (dZ ((65,p)::r) f 65 c at_).1 (dZ ((65,p)::r) f 65 c at_).2 at_:=by
  obtain⟨x0,x1,x2,x3,x4⟩:=h.cells;have HM:=ac h;clear h;go_enter Tryz.func159,Tryz.ntmps159
  go_wp2_with (first
    | (go_at_call 191;refine fz (BM.refl _ _) (Hl B b r p _ _ _ _ HM.out hl ht) fun w1 q1 HM1 x0 x1 x2 x3 x4=>?_))
  all_goals go_returns
  all_goals first
    | exact eH HM1.out q1 rfl rfl
    | exact eH (HM1.out.setFresh _) (BM.setCell q1 HM1.out _) rfl rfl
theorem No (h:eT w B b ((82,p)::r) f at_) (hl:r.length≤99990) (ht:r≠[]) :
    gF 159 10 c w B b (.tuple #[]) (dZ ((82,p)::r) f 82 c at_).1 (dZ ((82,p)::r) f 82 c at_).2 at_:=by
  obtain⟨x0,x1,x2,x3,x4⟩:=h.cells;have HM:=ac h;clear h;go_enter Tryz.func159,Tryz.ntmps159
  go_wp2_with (first
    | (go_at_call 191;refine fz (BM.refl _ _) (Hk B b r p _ _ _ _ HM.out hl ht) fun w1 q1 HM1 x0 x1 x2 x3 x4=>?_))
  all_goals go_returns
  all_goals first
    | exact eH HM1.out q1 rfl rfl
    | exact eH (HM1.out.setFresh _) (BM.setCell q1 HM1.out _) rfl rfl
theorem Nr (h:eT w B b ((68,p)::r) f at_) (hl:r.length≤99990) (ht:r≠[]) :
    gF 159 5 c w B b (.tuple #[]) (dZ ((68,p)::r) f 68 c at_).1 (dZ ((68,p)::r) f 68 c at_).2 at_:=by
  obtain⟨x0,x1,x2,x3,x4⟩:=h.cells;have HM:=ac h;clear h;go_enter Tryz.func159,Tryz.ntmps159
  go_wp2_with (first
    | (go_at_call 192;refine fz (BM.refl _ _) (CP B b r p _ _ _ _ HM.out hl ht) fun w1 q1 HM1 x0 x1 x2 x3 x4=>?_))
  all_goals go_returns
  all_goals first
    | exact eH HM1.out q1 rfl rfl
    | exact eH (HM1.out.setFresh _) (BM.setCell q1 HM1.out _) rfl rfl
theorem Nq (h:eT w B b ((73,p)::r) f at_) (hl:r.length≤99990) (ht:r≠[]) :
    gF 159 8 c w B b (.tuple #[]) (dZ ((73,p)::r) f 73 c at_).1 (dZ ((73,p)::r) f 73 c at_).2 at_:=by
  obtain⟨x0,x1,x2,x3,x4⟩:=h.cells;have HM:=ac h;clear h;go_enter Tryz.func159,Tryz.ntmps159
  go_wp2_with (first
    | (go_at_call 192;refine fz (BM.refl _ _) (CO B b r p _ _ _ _ HM.out hl ht) fun w1 q1 HM1 x0 x1 x2 x3 x4=>?_))
  all_goals go_returns
  all_goals first
    | exact eH HM1.out q1 rfl rfl
    | exact eH (HM1.out.setFresh _) (BM.setCell q1 HM1.out _) rfl rfl
theorem Nm (h:eT w B b ((86,p)::r) f at_) (hl:r.length≤99990) (ht:r≠[]) :
    gF 159 7 c w B b (.tuple #[]) (dZ ((86,p)::r) f 86 c at_).1 (dZ ((86,p)::r) f 86 c at_).2 at_:=by
  obtain⟨x0,x1,x2,x3,x4⟩:=h.cells;have HM:=ac h;clear h;go_enter Tryz.func159,Tryz.ntmps159
  go_wp2_with (first
    | (go_at_call 192;refine fz (BM.refl _ _) (CN B b r p _ _ _ _ HM.out hl ht) fun w1 q1 HM1 x0 x1 x2 x3 x4=>?_))
  all_goals go_returns
  all_goals first
    | exact eH HM1.out q1 rfl rfl
    | exact eH (HM1.out.setFresh _) (BM.setCell q1 HM1.out _) rfl rfl
theorem CV (f:Bool) (at_:Int) (w:World) (h:eT w B b ((88,p)::r) true at_) (hl:r.length≤99990) (ht:r≠[]) :
    gF 159 13 10 w B b (.tuple #[]) r true at_:=by
  obtain⟨x0,x1,x2,x3,x4⟩:=h.cells;have HM:=ac h;clear h;go_enter Tryz.func159,Tryz.ntmps159
  go_wp2_with (first
    | (go_at_call 158;with_reducible refine fz (BM.refl _ _) (jn B b _ _ _ _ _ _ HM.out ht) fun w1 q1 HM1 x0 x1 x2 x3 x4=>?_))
  all_goals go_returns
  all_goals first
    | exact eH HM1.out q1 rfl rfl
    | exact eH (HM1.out.setFresh _) (BM.setCell q1 HM1.out _) rfl rfl
theorem EU (f:Bool) (at_:Int) (w:World) (h:eT w B b ((88,p)::r) true at_) (hl:r.length≤99990) (ht:r≠[]) (hc10:((c.toNat:Int)==10)=false) :
    gF 159 13 c w B b (.tuple #[]) r false at_:=by
  obtain⟨x0,x1,x2,x3,x4⟩:=h.cells;have HM:=ac h;clear h;go_enter Tryz.func159,Tryz.ntmps159
  go_wp2_with (first
    | (go_at_call 158;with_reducible refine fz (BM.refl _ _) (jn B b _ _ _ _ _ _ HM.out ht) fun w1 q1 HM1 x0 x1 x2 x3 x4=>?_))
  all_goals go_returns
  all_goals first
    | exact eH HM1.out q1 rfl rfl
    | exact eH (HM1.out.setFresh _) (BM.setCell q1 HM1.out _) rfl rfl
theorem CW (f:Bool) (at_:Int) (w:World) (h:eT w B b ((88,p)::r) false at_) (hl:r.length≤99990) (ht:r≠[]) :
    gF 159 13 10 w B b (.tuple #[]) r false at_:=by
  obtain⟨x0,x1,x2,x3,x4⟩:=h.cells;have HM:=ac h;clear h;go_enter Tryz.func159,Tryz.ntmps159
  go_wp2_with (first
    | (go_at_call 158;with_reducible refine fz (BM.refl _ _) (jn B b _ _ _ _ _ _ HM.out ht) fun w1 q1 HM1 x0 x1 x2 x3 x4=>?_))
  all_goals go_returns
  all_goals first
    | exact eH HM1.out q1 rfl rfl
    | exact eH (HM1.out.setFresh _) (BM.setCell q1 HM1.out _) rfl rfl
theorem EV (f:Bool) (at_:Int) (w:World) (h:eT w B b ((88,p)::r) false at_) (hl:r.length≤99990) (ht:r≠[]) (hc10:((c.toNat:Int)==10)=false) :
    gF 159 13 c w B b (.tuple #[]) r false at_:=by
  obtain⟨x0,x1,x2,x3,x4⟩:=h.cells;have HM:=ac h;clear h;go_enter Tryz.func159,Tryz.ntmps159
  go_wp2_with (first
    | (go_at_call 158;with_reducible refine fz (BM.refl _ _) (jn B b _ _ _ _ _ _ HM.out ht) fun w1 q1 HM1 x0 x1 x2 x3 x4=>?_))
  all_goals go_returns
  all_goals first
    | exact eH HM1.out q1 rfl rfl
    | exact eH (HM1.out.setFresh _) (BM.setCell q1 HM1.out _) rfl rfl
theorem EW (h:eT w B b ((83,p)::r) f at_) (hl:r.length≤99990) (ht:r≠[]) :
    gF 159 4 39 w B b (.tuple #[]) r f at_:=by
  obtain⟨x0,x1,x2,x3,x4⟩:=h.cells;have HM:=ac h;clear h;go_enter Tryz.func159,Tryz.ntmps159
  go_wp2_with (first
    | (go_at_call 158;with_reducible refine fz (BM.refl _ _) (jn B b _ _ _ _ _ _ HM.out ht) fun w1 q1 HM1 x0 x1 x2 x3 x4=>?_))
  all_goals go_returns
  all_goals first
    | exact eH HM1.out q1 rfl rfl
    | exact eH (HM1.out.setFresh _) (BM.setCell q1 HM1.out _) rfl rfl
theorem Ja (h:eT w B b ((83,p)::r) f at_) (hl:r.length≤99990) (hc39:((c.toNat:Int)==39)=false) :
    gF 159 4 c w B b (.tuple #[]) ((83,p)::r) f at_:=by
  obtain⟨x0,x1,x2,x3,x4⟩:=h.cells;have HM:=ac h;clear h;go_enter Tryz.func159,Tryz.ntmps159;go_wp2_with fail;all_goals go_returns
  all_goals first
    | exact eH HM.out (BM.refl _ _) rfl rfl
    | exact eH (HM.out.setFresh _) (BM.setCell (BM.refl _ _) HM.out _) rfl rfl
theorem EZ (h:eT w B b ((35,p)::r) f at_) (hl:r.length≤99990) (ht:r≠[]) :
    gF 159 14 10 w B b (.tuple #[]) r true at_:=by
  obtain⟨x0,x1,x2,x3,x4⟩:=h.cells;have HM:=ac h;clear h;go_enter Tryz.func159,Tryz.ntmps159
  go_wp2_with (first
    | (go_at_call 158;with_reducible refine fz (BM.refl _ _) (jn B b _ _ _ _ _ _ HM.out ht) fun w1 q1 HM1 x0 x1 x2 x3 x4=>?_))
  all_goals go_returns
  all_goals first
    | exact eH HM1.out q1 rfl rfl
    | exact eH (HM1.out.setFresh _) (BM.setCell q1 HM1.out _) rfl rfl
theorem Jc (h:eT w B b ((35,p)::r) f at_) (hl:r.length≤99990) (hc10:((c.toNat:Int)==10)=false) :
    gF 159 14 c w B b (.tuple #[]) ((35,p)::r) f at_:=by
  obtain⟨x0,x1,x2,x3,x4⟩:=h.cells;have HM:=ac h;clear h;go_enter Tryz.func159,Tryz.ntmps159;go_wp2_with fail;all_goals go_returns
  all_goals first
    | exact eH HM.out (BM.refl _ _) rfl rfl
    | exact eH (HM.out.setFresh _) (BM.setCell (BM.refl _ _) HM.out _) rfl rfl
theorem EX (h:eT w B b ((66,p)::r) f at_) (hl:r.length≤99990) (ht:r≠[]) :
    gF 159 6 96 w B b (.tuple #[]) r f at_:=by
  obtain⟨x0,x1,x2,x3,x4⟩:=h.cells;have HM:=ac h;clear h;go_enter Tryz.func159,Tryz.ntmps159
  go_wp2_with (first
    | (go_at_call 158;with_reducible refine fz (BM.refl _ _) (jn B b _ _ _ _ _ _ HM.out ht) fun w1 q1 HM1 x0 x1 x2 x3 x4=>?_))
  all_goals go_returns
  all_goals first
    | exact eH HM1.out q1 rfl rfl
    | exact eH (HM1.out.setFresh _) (BM.setCell q1 HM1.out _) rfl rfl
theorem EY (h:eT w B b ((66,p)::r) f at_) (hl:r.length≤99990) :
    gF 159 6 92 w B b (.tuple #[]) ((88,at_)::(66,p)::r) f at_:=by
  obtain⟨x0,x1,x2,x3,x4⟩:=h.cells;have HM:=ac h;clear h;go_enter Tryz.func159,Tryz.ntmps159
  go_wp2_with (first
    | (go_at_call 190;with_reducible refine fz (BM.refl _ _) (jO B b _ _ _ 88 13 _ rfl HM.out (by simp) (by simp at *;omega)) fun w1 q1 HM1 x0 x1 x2 x3 x4=>?_))
  all_goals go_returns
  all_goals first
    | exact eH HM1.out q1 rfl rfl
    | exact eH (HM1.out.setFresh _) (BM.setCell q1 HM1.out _) rfl rfl
theorem Jb (h:eT w B b ((66,p)::r) f at_) (hl:r.length≤99990) (hc96:((c.toNat:Int)==96)=false) (hc92:((c.toNat:Int)==92)=false) :
    gF 159 6 c w B b (.tuple #[]) ((66,p)::r) f at_:=by
  obtain⟨x0,x1,x2,x3,x4⟩:=h.cells;have HM:=ac h;clear h;go_enter Tryz.func159,Tryz.ntmps159;go_wp2_with fail;all_goals go_returns
  all_goals first
    | exact eH HM.out (BM.refl _ _) rfl rfl
    | exact eH (HM.out.setFresh _) (BM.setCell (BM.refl _ _) HM.out _) rfl rfl
theorem sJ (r:fK) (c:UInt8) (p m:Int) (b:UInt8) (f:Bool) (at_:Int) (w:World) (hm:m=fg c) (h:eT w B b0 ((c,p)::r) f at_) (hl:r.length≤99990) (ht:c≠84→r≠[]) (hc:c=84∨c=67∨c=80∨c=65∨c=82∨c=68∨c=73∨c=86∨c=88∨c=83∨c=35∨c=66) :
    gF 159 m b w B b0 (.tuple #[]) (dZ ((c,p)::r) f c b at_).1 (dZ ((c,p)::r) f c b at_).2 at_:=by
  rcases hc with rfl|rfl|rfl|rfl|rfl|rfl|rfl|rfl|rfl|rfl|rfl|rfl
  ·obtain rfl:m=0:=hm;exact Nn B b0 r p b f at_ w h hl
  ·obtain rfl:m=1:=hm;exact Ns B b0 r p b f at_ w h hl (ht (by decide))
  ·obtain rfl:m=2:=hm;exact Np B b0 r p b f at_ w h hl (ht (by decide))
  ·obtain rfl:m=9:=hm;exact Nt B b0 r p b f at_ w h hl (ht (by decide))
  ·obtain rfl:m=10:=hm;exact No B b0 r p b f at_ w h hl (ht (by decide))
  ·obtain rfl:m=5:=hm;exact Nr B b0 r p b f at_ w h hl (ht (by decide))
  ·obtain rfl:m=8:=hm;exact Nq B b0 r p b f at_ w h hl (ht (by decide))
  ·obtain rfl:m=7:=hm;exact Nm B b0 r p b f at_ w h hl (ht (by decide))
  ·obtain rfl:m=13:=hm;have ht:=ht (by decide);rcases aS (b=10) with rfl|hb10
   ·have e:dZ ((88,p)::r) f 88 10 at_=(r,f):=by simp[dZ]
    rw[e]
    cases f
    ·exact CW B b0 r p false at_ w h hl ht
    ·exact CV B b0 r p true at_ w h hl ht
   have n10:b.toNat≠10:=nn hb10;have e:dZ ((88,p)::r) f 88 b at_=(r,false):=by simp[dZ,n10]
   rw[e]
   cases f
   ·exact EV B b0 r p b false at_ w h hl ht (bf b 10 hb10)
   ·exact EU B b0 r p b true at_ w h hl ht (bf b 10 hb10)
  ·obtain rfl:m=4:=hm;have ht:=ht (by decide);rcases aS (b=39) with rfl|hb39
   ·have e:dZ ((83,p)::r) f 83 39 at_=(r,f):=by simp[dZ]
    rw[e];exact EW B b0 r p f at_ w h hl ht
   have n39:b.toNat≠39:=nn hb39;have e:dZ ((83,p)::r) f 83 b at_=(((83,p)::r),f):=by simp[dZ,n39]
   rw[e];exact Ja B b0 r p b f at_ w h hl (bf b 39 hb39)
  ·obtain rfl:m=14:=hm;have ht:=ht (by decide);rcases aS (b=10) with rfl|hb10
   ·have e:dZ ((35,p)::r) f 35 10 at_=(r,true):=by simp[dZ]
    rw[e];exact EZ B b0 r p f at_ w h hl ht
   have n10:b.toNat≠10:=nn hb10;have e:dZ ((35,p)::r) f 35 b at_=(((35,p)::r),f):=by simp[dZ,n10]
   rw[e];exact Jc B b0 r p b f at_ w h hl (bf b 10 hb10)
  ·obtain rfl:m=6:=hm;have ht:=ht (by decide);rcases aS (b=96) with rfl|hb96
   ·have e:dZ ((66,p)::r) f 66 96 at_=(r,f):=by simp[dZ]
    rw[e];exact EX B b0 r p f at_ w h hl ht
   have n96:b.toNat≠96:=nn hb96;rcases aS (b=92) with rfl|hb92
   ·have e:dZ ((66,p)::r) f 66 92 at_=(((88,at_)::(66,p)::r),f):=by simp[dZ]
    rw[e];exact EY B b0 r p f at_ w h hl
   have n92:b.toNat≠92:=nn hb92;have e:dZ ((66,p)::r) f 66 b at_=(((66,p)::r),f):=by simp[dZ,n96,n92]
   rw[e];exact Jb B b0 r p b f at_ w h hl (bf b 96 hb96) (bf b 92 hb92)
theorem eT.drewN {w:World} {B b:Nat} {st:fK} {f:Bool} {at_:Int} (h:eT w B b st f at_) (n:Nat):eT (w.drewN n) B b st f at_:=h
theorem wT (p q:Int) (c d:UInt8) (m:Int) (w:World) (hm:m=fg d) (h:eT w B b ((c,p)::(d,q)::st) f at_) :
    Ob 188 #[.pointer (some ⟨b,0,none⟩)] w (.int .i64 m):=by
  subst hm;exact Kq B b st f at_ p q c d w h
theorem NR (h:eT w B b ((76,p)::(d,q)::r) f at_) (hl:r.length≤99980) :
    lu 156 40 w B b (.bool true) ((79,p)::(d,q)::r) true at_:=by
  obtain⟨x0,x1,x2,x3,x4⟩:=h.cells;have HM:=ac h;clear h;go_enter Tryz.func156,Tryz.ntmps156
  go_wp2_with (first
    | (go_at_call 157;with_reducible refine fz (BM.refl _ _) (jY B b _ _ _ _ _ 79 3 _ rfl HM.out) fun w1 q1 HM1 x0 x1 x2 x3 x4=>?_))
  all_goals go_returns
  all_goals first
    | exact eH HM1.out q1 rfl rfl
    | exact eH (HM1.out.setFresh _) (BM.setCell q1 HM1.out _) rfl rfl
theorem NS (h:eT w B b ((76,p)::(d,q)::r) f at_) (hl:r.length≤99980) :
    lu 156 36 w B b (.bool true) ((d,q)::r) f at_:=by
  obtain⟨x0,x1,x2,x3,x4⟩:=h.cells;have HM:=ac h;clear h;go_enter Tryz.func156,Tryz.ntmps156
  go_wp2_with (first
    | (go_at_call 158;refine fz (BM.refl _ _) (jn B b _ _ _ _ _ _ HM.out (by simp)) fun w1 q1 HM1 x0 x1 x2 x3 x4=>?_))
  all_goals go_returns
  all_goals first
    | exact eH HM1.out q1 rfl rfl
    | exact eH (HM1.out.setFresh _) (BM.setCell q1 HM1.out _) rfl rfl
theorem Oy (h:eT w B b ((76,p)::(d,q)::r) f at_) (hl:r.length≤99980) (hc40:((c.toNat:Int)==40)=false) (hc123:((c.toNat:Int)==123)=false) (hc36:((c.toNat:Int)==36)=false) :
    lu 156 c w B b (.bool false) ((d,q)::r) f at_:=by
  obtain⟨x0,x1,x2,x3,x4⟩:=h.cells;have HM:=ac h;clear h;go_enter Tryz.func156,Tryz.ntmps156
  go_wp2_with (first
    | (go_at_call 158;refine fz (BM.refl _ _) (jn B b _ _ _ _ _ _ HM.out (by simp)) fun w1 q1 HM1 x0 x1 x2 x3 x4=>?_))
  all_goals go_returns
  all_goals first
    | exact eH HM1.out q1 rfl rfl
    | exact eH (HM1.out.setFresh _) (BM.setCell q1 HM1.out _) rfl rfl
theorem GA (h:eT w B b ((76,p)::(d,q)::r) f at_) (hl:r.length≤99980) (hmd:m=fg d) (hm5:m=5) :
    lu 156 123 w B b (.bool true) ((73,p)::(d,q)::r) f at_:=by
  obtain⟨x0,x1,x2,x3,x4⟩:=h.cells;have HM:=ac h;clear h;subst hm5;have Hmd:=ac hmd;clear hmd;go_enter Tryz.func156,Tryz.ntmps156
  go_wp2_with (first
    | (go_at_call 188;refine(wT B b _ _ _ _ _ _ _ _ _ Hmd.out HM.out).mono ?_;rintro e w0 ⟨rfl,nq,rfl⟩)
    | (go_at_call 157;with_reducible refine fz (BM.drewN (BM.refl B w) nq) (jY B b _ _ _ _ _ 73 8 _ rfl (HM.out.drewN nq)) fun w1 q1 HM1 x0 x1 x2 x3 x4=>?_))
  all_goals go_returns
  all_goals first
    | exact eH HM1.out q1 rfl rfl
    | exact eH (HM1.out.setFresh _) (BM.setCell q1 HM1.out _) rfl rfl
theorem Gz (h:eT w B b ((76,p)::(d,q)::r) f at_) (hl:r.length≤99980) (hmd:m=fg d) (hm5:m=8) :
    lu 156 123 w B b (.bool true) ((73,p)::(d,q)::r) f at_:=by
  obtain⟨x0,x1,x2,x3,x4⟩:=h.cells;have HM:=ac h;clear h;subst hm5;have Hmd:=ac hmd;clear hmd;go_enter Tryz.func156,Tryz.ntmps156
  go_wp2_with (first
    | (go_at_call 188;refine(wT B b _ _ _ _ _ _ _ _ _ Hmd.out HM.out).mono ?_;rintro e w0 ⟨rfl,nq,rfl⟩)
    | (go_at_call 157;with_reducible refine fz (BM.drewN (BM.refl B w) nq) (jY B b _ _ _ _ _ 73 8 _ rfl (HM.out.drewN nq)) fun w1 q1 HM1 x0 x1 x2 x3 x4=>?_))
  all_goals go_returns
  all_goals first
    | exact eH HM1.out q1 rfl rfl
    | exact eH (HM1.out.setFresh _) (BM.setCell q1 HM1.out _) rfl rfl
theorem Gy (h:eT w B b ((76,p)::(d,q)::r) f at_) (hl:r.length≤99980) (hmd:m=fg d) (hm5:(m==5)=false) (hm8:(m==8)=false) :
    lu 156 123 w B b (.bool true) ((86,p)::(d,q)::r) f at_:=by
  obtain⟨x0,x1,x2,x3,x4⟩:=h.cells;have HM:=ac h;clear h;have Hmd:=ac hmd;clear hmd;go_enter Tryz.func156,Tryz.ntmps156
  go_wp2_with (first
    | (go_at_call 188;refine(wT B b _ _ _ _ _ _ _ _ _ Hmd.out HM.out).mono ?_;rintro e w0 ⟨rfl,nq,rfl⟩)
    | (go_at_call 157;with_reducible refine fz (BM.drewN (BM.refl B w) nq) (jY B b _ _ _ _ _ 86 7 _ rfl (HM.out.drewN nq)) fun w1 q1 HM1 x0 x1 x2 x3 x4=>?_))
  all_goals go_returns
  all_goals first
    | exact eH HM1.out q1 rfl rfl
    | exact eH (HM1.out.setFresh _) (BM.setCell q1 HM1.out _) rfl rfl
end Go.Proofs.YtmclohkaiemnaaaGreatDoor
