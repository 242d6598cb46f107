/- The program's machine (modes.Machine) in memory: its frames hold the modes of a stack of letters; open, shut, become, below, New. -/
import Derived.Test.YtfagdpfgifgnoaaGreatDoorMem
import Derived.Test.YtfagdpfgifgnoaaGreatDoorPl6
import Derived.Test.YtfagdpfgifgnoaaGreatDoorCls
set_option linter.unusedVariables false
set_option linter.unusedSimpArgs false
set_option maxRecDepth 100000
set_option maxHeartbeats 8000000
namespace Go.Proofs.YtfagdpfgifgnoaaGreatDoor
open Go.RowKit
variable {av:Array Value} {f':Bool} {Q:Ending→World→Prop} {fn:FuncId} {T:List TypeId} {i:Nat} {st':bp} {v:Value} {w' a w0:World} (B b:Nat) (r st:bp) (p q:Int) (x d:UInt8) (m:Int) (c:UInt8) (f:Bool) (at_:Int) (b0:Nat) (w:World)
def bQ (st:bp):List Value:=st.reverse.flatMap fun x=>[.int .i64 (aH x.1),.int .i64 x.2]
theorem cC (p:Int) (st:bp):bQ ((c,p)::st)=bQ st++[.int .i64 (aH c),.int .i64 p]:=by simp[bQ]
theorem dm:(bQ st).length=st.length*2:=by
  induction st with
  | nil=>rfl
  | cons x st ih=>obtain⟨c,p⟩:=x;rw[cC];simp[ih];omega
def aB (w:World) (B b:Nat) (st:bp) (f:Bool) (at_:Int):Prop:=
  B≤b∧∃g cap,Bk w b 189 #[.slice (some ⟨g,0,none⟩) st.length cap,.bool f,.int .i64 at_]∧w.ownsRow B 187 2 (.slice (some ⟨g,0,none⟩) st.length cap) st.length (bQ st)
theorem aB.below {w:World} {B b:Nat} {st:bp} {f:Bool} {at_:Int} (h:aB w B b st f at_) (hb:Below w.heap.size w w'):aB w' B b st f at_:=by
  obtain⟨h1,g,cap,h2,h3⟩:=h;exact⟨h1,g,cap,h2.below hb h2.lt,aN h3 hb⟩
theorem aB.le {w:World} {B b:Nat} {st:bp} {f:Bool} {at_:Int} (h:aB w B b st f at_):B≤b∧b<w.heap.size:=by
  obtain⟨h1,g,cap,h2,h3⟩:=h;exact⟨h1,h2.lt⟩
structure BM (B:Nat) (w w':World):Prop where
  b:Below B w w'
  t:KT [189,187] w w'
theorem BM.refl:BM B w w:=⟨Below.refl _ _,KT.refl _ _⟩
theorem BM.trans {B:Nat} {b c:World} (h:BM B a b) (h':BM B b c):BM B a c:=⟨h.b.trans h'.b,h.t.trans h'.t⟩
theorem BM.drewN {B:Nat} {b:World} (h:BM B a b) (n:Nat):BM B a (b.drewN n):=⟨ae h.b n,h.t.drewN n⟩
theorem BM.setCell {B b:Nat} {w:World} {st:bp} {f:Bool} {at_:Int} (h:BM B a w) (hm:aB w B b st f at_) (v:Value):BM B a (w.setCell ⟨b,i,none⟩ v):=by
  obtain⟨h1,g,cap,h2,h3⟩:=hm;exact⟨h.b.setCell h1 v,h.t.setCell h2 (by simp) i v⟩
theorem aB.kt {w:World} {B b:Nat} {st:bp} {f:Bool} {at_:Int} (h:aB w B b st f at_) (hk:KT T w w') (h1:189∉T) (h2:187∉T):aB w' B b st f at_:=by
  obtain⟨m1,g,cap,m2,m3⟩:=h;exact⟨m1,g,cap,m2.kt hk h1,tu m3 hk h2⟩
def Mo (w:World) (B b:Nat) (v:Value) (st:bp) (f:Bool) (at_:Int) (e:Ending) (w':World):Prop:=e=.returned v∧aB w' B b st f at_∧BM B w w'
abbrev fT (fn:FuncId) (c:UInt8) (w:World) (B b:Nat) (v:Value) (st:bp) (f:Bool) (at_:Int):Prop:=Calls Tryz.prog fn #[.pointer (some ⟨b,0,none⟩),.int .u8 (c.toNat:Int)] w (Mo w B b v st f at_)
abbrev bU (fn:FuncId) (m:Int) (c:UInt8) (w:World) (B b:Nat) (v:Value) (st:bp) (f:Bool) (at_:Int):Prop:=Calls Tryz.prog fn #[.pointer (some ⟨b,0,none⟩),.int .i64 m,.int .u8 (c.toNat:Int)] w (Mo w B b v st f at_)
theorem ay {w:World} {B b:Nat} {st:bp} {f:Bool} {at_:Int} (h:aB w' B b st' f' at_) (hb:BM B w w') (hs:st'=st) (hf:f'=f):Mo w B b v st f at_ (.returned v) w':=by
  subst hs hf;exact⟨rfl,h,hb⟩
theorem aB.setFresh {w:World} {B b:Nat} {st:bp} {f:Bool} {at_:Int} (h:aB w B b st f at_) (f':Bool):aB (w.setCell ⟨b,1,none⟩ (.bool f')) B b st f' at_:=by
  obtain⟨h1,g,cap,h2,h3⟩:=h;refine⟨h1,g,cap,by simpa using h2.set 1 (.bool f'),aT h3 ?_ _⟩;exact aL h3 h2 (by decide)
theorem aB.setAt {w:World} {B b:Nat} {st:bp} {f:Bool} {at_:Int} (h:aB w B b st f at_) (k:Int):aB (w.setCell ⟨b,2,none⟩ (.int .i64 k)) B b st f k:=by
  obtain⟨h1,g,cap,h2,h3⟩:=h;refine⟨h1,g,cap,by simpa using h2.set 2 (.int .i64 k),aT h3 ?_ _⟩;exact aL h3 h2 (by decide)
theorem zW (p:Int) (c d:UInt8) (w:World) (h:aB w B b ((c,p)::st) f at_) :
    Calls Tryz.prog 170 #[.pointer (some ⟨b,0,none⟩),.int .i64 (aH d)] w (Mo w B b (.tuple #[]) ((d,p)::st) f at_):=by
  obtain⟨h1,g,cap,h2,h3⟩:=h;have hle:=dc h3;have hcap:=hle.2.2.1;have hc1:st.length+1≤cap:=hle.2.1;unfold maxLen at hcap;have c0:w.cell? ⟨b,0,none⟩=some (.slice (some ⟨g,0,none⟩) (st.length+1) cap):=by rw[h2.cell];rfl
  have c1:w.cell? ⟨g,st.length*2,none⟩=some (.int .i64 (aH c)):=aJ h3 _ _ (by rw[cC,List.getElem?_append_right (by rw[dm];omega)];simp[dm]);have f1:=cQ h3 (st.length*2);have H:=Lib.hid (And.intro h1 (And.intro h2 h3));clear h1 h2 h3 hle;generalize hn:st.length=n at *;have HN:=Lib.hid hn;clear hn;go_enter Tryz.func170,Tryz.ntmps170;go_wp2;go_region;all_goals go_end0
  all_goals (
    obtain⟨h1,h2,h3⟩:=H.out;have hn:=HN.out;subst hn;refine⟨rfl,⟨h1,g,cap,?_,?_⟩,?_⟩
    ·exact(h2.far (show b≠g from fun e=>aL h3 h2 (by decide) (by rw[e];rfl)) _).drew
    ·refine cF ?_
     have:=kC h3 (st.length*2) (.int .i64 (aH d))
     have e:(bQ ((c,p)::st)).set (st.length*2) (.int .i64 (aH d))=bQ ((d,p)::st):=by
       rw[cC,cC,List.set_append_right _ _ (by rw[dm];omega)];simp[dm]
     rw[e] at this;exact this
    ·exact⟨((Below.refl _ _).setCell (dc h3).2.2.2.1 _).drew,((KT.refl _ _).setCell (gJ h3) (by simp) _ _).drew⟩)
theorem dR (p:Int) (c:UInt8) (w:World) (h:aB w B b ((c,p)::st) f at_) (hne:st≠[]) :
    Calls Tryz.prog 171 #[.pointer (some ⟨b,0,none⟩)] w (Mo w B b (.tuple #[]) st f at_):=by
  obtain⟨h1,g,cap,h2,h3⟩:=h;obtain⟨x,r,rfl⟩:=List.exists_cons_of_ne_nil hne;have hle:=dc h3;have hcap:=hle.2.2.1;have hc1:r.length+2≤cap:=hle.2.1;unfold maxLen at hcap;have c0:w.cell? ⟨b,0,none⟩=some (.slice (some ⟨g,0,none⟩) (r.length+2) cap):=by rw[h2.cell];rfl
  have f1:=h2.frozen 0;have H:=Lib.hid (And.intro h1 (And.intro h2 h3));clear h1 h2 h3 hle hne;generalize hn:r.length=n at *;have HN:=Lib.hid hn;clear hn;go_enter Tryz.func171,Tryz.ntmps171;go_wp2;go_region;all_goals go_wp2
  all_goals go_end0
  all_goals (
    obtain⟨h1,h2,h3⟩:=H.out;have hn:=HN.out;subst hn;refine⟨rfl,⟨h1,g,cap,?_,?_⟩,?_⟩
    ·have:=(h2.set 0 (.slice (some ⟨g,0,none⟩) (r.length+1) cap)).drew
     simpa using this
    ·refine cF (aT ?_ ?_ _)
     ·rw[cC] at h3;exact ownsRow_pop (dm _) h3
     ·have:=aL h3 h2 (by decide)
      simpa [Value.ownBlock] using this
    ·exact⟨((Below.refl _ _).setCell h1 _).drew,((KT.refl _ _).setCell h2 (by simp) _ _).drew⟩)
theorem CL (p q:Int) (c d:UInt8) (w:World) (h:aB w B b ((c,p)::(d,q)::st) f at_) :
    Gw 201 #[.pointer (some ⟨b,0,none⟩)] w (.int .i64 (aH d)):=by
  obtain⟨h1,g,cap,h2,h3⟩:=h;have hle:=dc h3;have hcap:=hle.2.2.1;have hc1:st.length+2≤cap:=hle.2.1;unfold maxLen at hcap;have c0:w.cell? ⟨b,0,none⟩=some (.slice (some ⟨g,0,none⟩) (st.length+2) cap):=by rw[h2.cell];rfl
  have c1:w.cell? ⟨g,st.length*2,none⟩=some (.int .i64 (aH d)):=aJ h3 _ _ (by
    rw[cC,cC,List.append_assoc,List.getElem?_append_right (by rw[dm];omega)];simp[dm])
  clear h1 h2 h3 hle;generalize st.length=n at *;go_enter Tryz.func201,Tryz.ntmps201;go_wp2;go_quiet (fail);go_wp2;go_ret;exact⟨rfl,_,rfl⟩
theorem Tryz.infoFrame:(Tryz.prog.info? 187).map (fun i=>(i.zero,i.size,i.bytes))=some (some (.agg #[.int .i64 0,.int .i64 0]),2,16):=by kernel_rfl
theorem DC (x y:Value) (t:TypeId):Rd (w.alloc (.cells #[x,y] t)) (w.heap.size+1) 2 (.slice (some ⟨w.heap.size,0,none⟩) 1 1) 1 [x,y]:=eM w [x,y] t 2 1 rfl (by omega)
theorem DL (d:UInt8) (w:World) (h:aB w B b st f at_) (hne:st≠[]) (hl:st.length≤1000000) :
    Calls Tryz.prog 203 #[.pointer (some ⟨b,0,none⟩),.int .i64 (aH d)] w (Mo w B b (.tuple #[]) ((d,at_)::st) f at_):=by
  obtain⟨h1,g,cap,h2,h3⟩:=h;have c0:w.cell? ⟨b,0,none⟩=some (.slice (some ⟨g,0,none⟩) st.length cap):=by rw[h2.cell];rfl
  have c2:w.cell? ⟨b,2,none⟩=some (.int .i64 at_):=by rw[h2.cell];rfl
  have f0:=h2.frozen 0;have hbl:=h2.lt;have hle:=dc h3;have hgb:¬g=b:=fun e=>aL h3 h2 (by decide) (by rw[e];rfl)
  have hbg:¬b=g:=fun e=>hgb e.symm
  have hB:B≤w.heap.size:=by omega
  have H:=Lib.hid (And.intro h1 (And.intro h2 (And.intro h3 hle)));clear h1 h2 h3 hle hne;generalize hn:st.length=n at *;have HN:=Lib.hid hn;clear hn;obtain⟨i0,hi,hz0,hz1,hz2⟩:=info_parts Tryz.infoFrame;go_enter Tryz.func203,Tryz.ntmps203;go_wp2
  go_region_law (first
    | (refine cS rfl (.tmp 8) (.tmp 15) 159 rfl B 187 i0 _ 2 16 Tryz.underlying159 hi hz0 hz1 hz2 rfl (by decide) (.slice (some ⟨g,0,none⟩) n cap) n (bQ st) (by simp[Act.eval]) (H.out.2.2.1.alloc _) (.slice (some ⟨w.heap.size,0,none⟩) 1 1) 1 (w.heap.size+1) [.int .i64 (aH d),.int .i64 at_] (by simp[Act.eval]) (Rd.drew (DC w _ _ _)) (by intro u hu;simp at hu;rcases hu with rfl|rfl<;>rfl) (by unfold maxLen;omega) (by omega) (by simp;omega) ?_;intro v1 w1 hown1 hg1 hv1;obtain⟨g',cap',rfl⟩:=fK hown1;have kk:=(H.out.2.1.alloc (.cells #[.int .i64 (aH d),.int .i64 at_] 187)).drew.grown (row:=some g) hg1 (by simpa using hbg);have y0:=kk.cell 0;simp only[List.getElem?_toArray,List.getElem?_cons_zero] at y0;have y1:=kk.frozen 0;have H1:=Lib.hid (And.intro hown1 (And.intro hg1 kk));clear hown1 hg1 hv1 kk))
  all_goals go_wp2
  all_goals go_end0
  all_goals (
    obtain⟨h1,h2,h3,hle⟩:=H.out;obtain⟨hown1,hg1,kk⟩:=H1.out;have hn:=HN.out;subst hn;refine⟨rfl,⟨h1,g',cap',?_,?_⟩,?_⟩
    ·simpa using kk.set 0 (.slice (some ⟨g',0,none⟩) (st.length+1) cap')
    ·rw[cC];refine aT hown1 ?_ _
     have:=aL hown1 kk (by decide)
     exact this
    ·exact⟨Below.setCell ((Below.alloc (Below.refl _ _) hB _).drew.grown (row:=some g) hg1 (by simp;omega) (by intro k hk;injection hk with hk;omega)) h1 _,(((KT.refl _ _).alloc _).drew.grown (row:=some g) hg1 (by intro k hk;injection hk with hk;subst hk;obtain⟨cs,t,fr,q1,q2⟩:=ij (cF (h3.alloc _)) g rfl;exact⟨cs,t,fr,q1,by rw[q2];simp⟩)).setCell kk (by simp) _ _⟩)
theorem yx:Calls Tryz.prog 144 #[] w fun e w'=>∃b,e=.returned (.pointer (some ⟨b,0,none⟩))∧aB w' w.heap.size b [(84,0)] true 0∧Below w.heap.size w w':=by
  go_enter Tryz.func144,Tryz.ntmps144;go_wp2;go_returns;refine⟨w.heap.size+1,rfl,⟨Nat.le_succ _,w.heap.size,1,?_,?_⟩,by go_grown⟩
  ·simpa using Bk.new (w.alloc (.cells #[.int .i64 0,.int .i64 0] 187)) 189 #[.slice (some ⟨w.heap.size,0,none⟩) 1 1,.bool true,.int .i64 0]
  ·refine World.ownsRow.alloc ?_ _;exact⟨rfl,.inr ⟨w.heap.size,1,_,rfl,Nat.le_refl _,Bk.new _ _ _,Nat.le_refl _,by unfold maxLen;omega,rfl,rfl⟩⟩
theorem aB.cells {w:World} {B b:Nat} {st:bp} {f:Bool} {at_:Int} (h:aB w B b st f at_):w.cell? ⟨b,1,none⟩=some (.bool f)∧w.cell? ⟨b,2,none⟩=some (.int .i64 at_)∧w.frozen? ⟨b,1,none⟩=false∧w.frozen? ⟨b,2,none⟩=false∧b<w.heap.size:=by
  obtain⟨_,g,cap,h2,_⟩:=h;exact⟨by rw[h2.cell];rfl,by rw[h2.cell];rfl,h2.frozen _,h2.frozen _,h2.lt⟩
theorem aV {w:World} {B b:Nat} {st:bp} {f:Bool} {at_:Int} (q:BM B w0 w) (c:Calls Tryz.prog fn av w (Mo w B b v st f at_)) (k:∀w',BM B w0 w'→Hid (aB w' B b st f at_)→w'.cell? ⟨b,1,none⟩=some (.bool f)→w'.cell? ⟨b,2,none⟩=some (.int .i64 at_)→w'.frozen? ⟨b,1,none⟩=false→w'.frozen? ⟨b,2,none⟩=false→b<w'.heap.size→Q (.returned v) w'):Calls Tryz.prog fn av w Q:=
  c.mono (by
    rintro e w' ⟨rfl,hm,hb⟩;obtain⟨x0,x1,x2,x3,x4⟩:=hm.cells;exact k w' (q.trans hb) (Lib.hid hm) x0 x1 x2 x3 x4)
theorem eP (d:UInt8) (m:Int) (w:World) (hm:m=aH d) (h:aB w B b st f at_) (hne:st≠[]) (hl:st.length≤100000) :
    Calls Tryz.prog 203 #[.pointer (some ⟨b,0,none⟩),.int .i64 m] w (Mo w B b (.tuple #[]) ((d,at_)::st) f at_):=by
  subst hm;exact DL B b st f at_ d w h hne (by omega)
theorem ff (p:Int) (c d:UInt8) (m:Int) (w:World) (hm:m=aH d) (h:aB w B b ((c,p)::st) f at_) :
    Calls Tryz.prog 170 #[.pointer (some ⟨b,0,none⟩),.int .i64 m] w (Mo w B b (.tuple #[]) ((d,p)::st) f at_):=by
  subst hm;exact zW B b st f at_ p c d w h
theorem yM (h:aB w B b st f at_) (hne:st≠[]) (hl:st.length≤100000) :
    fT 220 92 w B b (.bool true) ((88,at_)::st) f at_:=by
  obtain⟨x0,x1,x2,x3,x4⟩:=h.cells;have HM:=Lib.hid h;clear h;go_enter Tryz.func220,Tryz.ntmps220
  go_wp2_with (first
    | (go_at_call 203;with_reducible refine aV (BM.refl _ _) (eP B b _ _ _ 88 13 _ rfl HM.out hne hl) fun w1 q1 HM1 x0 x1 x2 x3 x4=>?_))
  go_ret;exact ay HM1.out q1 rfl rfl
theorem yN (h:aB w B b st f at_) (hne:st≠[]) (hl:st.length≤100000) :
    fT 220 36 w B b (.bool true) ((76,at_)::st) f at_:=by
  obtain⟨x0,x1,x2,x3,x4⟩:=h.cells;have HM:=Lib.hid h;clear h;go_enter Tryz.func220,Tryz.ntmps220
  go_wp2_with (first
    | (go_at_call 203;with_reducible refine aV (BM.refl _ _) (eP B b _ _ _ 76 12 _ rfl HM.out hne hl) fun w1 q1 HM1 x0 x1 x2 x3 x4=>?_))
  go_ret;exact ay HM1.out q1 rfl rfl
theorem yL (h:aB w B b st f at_) (hne:st≠[]) (hl:st.length≤100000) :
    fT 220 96 w B b (.bool true) ((66,at_)::st) f at_:=by
  obtain⟨x0,x1,x2,x3,x4⟩:=h.cells;have HM:=Lib.hid h;clear h;go_enter Tryz.func220,Tryz.ntmps220
  go_wp2_with (first
    | (go_at_call 203;with_reducible refine aV (BM.refl _ _) (eP B b _ _ _ 66 6 _ rfl HM.out hne hl) fun w1 q1 HM1 x0 x1 x2 x3 x4=>?_))
  go_ret;exact ay HM1.out q1 rfl rfl
theorem dB (h:aB w B b st f at_) (h92:((c.toNat:Int)==92)=false) (h36:((c.toNat:Int)==36)=false) (h96:((c.toNat:Int)==96)=false) :
    fT 220 c w B b (.bool false) st f at_:=by
  obtain⟨x0,x1,x2,x3,x4⟩:=h.cells;have HM:=Lib.hid h;clear h;go_enter Tryz.func220,Tryz.ntmps220;go_wp2;go_ret;exact ay HM.out (BM.refl _ _) rfl rfl
theorem jp (c d:UInt8) (w:World) (h:aB w B b st f at_) (hne:st≠[]) (hl:st.length≤100000) (hd:jP c=[d]) :
    fT 220 c w B b (.bool true) ((d,at_)::st) f at_:=by
  have hc:(c=92∧d=88)∨(c=36∧d=76)∨(c=96∧d=66):=by
    have:=bM (fun c=>(c==92&&jP c==[88])||(c==36&&jP c==[76])||(c==96&&jP c==[66])||jP c==[]) (by decide +kernel) c
    simp[hd] at this;simpa [or_assoc] using this
  rcases hc with ⟨rfl,rfl⟩|⟨rfl,rfl⟩|⟨rfl,rfl⟩
  ·exact yM B b st f at_ w h hne hl
  ·exact yN B b st f at_ w h hne hl
  ·exact yL B b st f at_ w h hne hl
theorem lU (x c d:UInt8) (f:Bool) (at_:Int) (w:World) (h:aB w B b ((x,p)::r) f at_) (hl:r.length≤99990) (hd:jP c=[d]) :
    bU 204 m c w B b (.tuple #[]) ((d,at_)::(x,p)::r) f at_:=by
  obtain⟨x0,x1,x2,x3,x4⟩:=h.cells;have HM:=Lib.hid h;clear h;go_enter Tryz.func204,Tryz.ntmps204
  go_wp2_with (first
    | (go_at_call 220;refine aV (BM.refl _ _) (jp B b _ _ _ _ _ _ HM.out (by simp) (by simp;omega) hd) fun w1 q1 HM1 x0 x1 x2 x3 x4=>?_))
  all_goals go_returns
  all_goals exact ay HM1.out q1 rfl rfl
theorem Dd (x:UInt8) (f:Bool) (at_:Int) (w:World) (h:aB w B b ((x,p)::r) f at_) (hl:r.length≤99990) :
    bU 204 m 40 w B b (.tuple #[]) ((82,at_)::(x,p)::r) f at_:=by
  obtain⟨x0,x1,x2,x3,x4⟩:=h.cells;have HM:=Lib.hid h;clear h;go_enter Tryz.func204,Tryz.ntmps204
  go_wp2_with (first
    | (go_at_call 220;refine aV (BM.refl _ _) (dB B b _ 40 _ _ _ HM.out (by decide) (by decide) (by decide)) fun w1 q1 HM1 x0 x1 x2 x3 x4=>?_)
    | (go_at_call 203;with_reducible refine aV q1 (eP B b _ _ _ 82 10 _ rfl HM1.out (by simp) (by simp at *;omega)) fun w2 q2 HM2 x0 x1 x2 x3 x4=>?_))
  all_goals go_returns
  all_goals exact ay HM2.out q2 rfl rfl
theorem Ac (h:aB w B b ((82,p)::r) f at_) (hl:r.length≤99990) (ht:r≠[]) :
    bU 204 10 41 w B b (.tuple #[]) r f at_:=by
  obtain⟨x0,x1,x2,x3,x4⟩:=h.cells;have HM:=Lib.hid h;clear h;go_enter Tryz.func204,Tryz.ntmps204
  go_wp2_with (first
    | (go_at_call 220;refine aV (BM.refl _ _) (dB B b _ 41 _ _ _ HM.out (by decide) (by decide) (by decide)) fun w1 q1 HM1 x0 x1 x2 x3 x4=>?_)
    | (go_at_call 171;with_reducible refine aV q1 (dR B b _ _ _ _ _ _ HM1.out ht) fun w2 q2 HM2 x0 x1 x2 x3 x4=>?_))
  all_goals go_returns
  all_goals exact ay HM2.out q2 rfl rfl
theorem Ad (h:aB w B b ((65,p)::r) f at_) (hl:r.length≤99990) :
    bU 204 9 41 w B b (.tuple #[]) ((69,p)::r) f at_:=by
  obtain⟨x0,x1,x2,x3,x4⟩:=h.cells;have HM:=Lib.hid h;clear h;go_enter Tryz.func204,Tryz.ntmps204
  go_wp2_with (first
    | (go_at_call 220;refine aV (BM.refl _ _) (dB B b _ 41 _ _ _ HM.out (by decide) (by decide) (by decide)) fun w1 q1 HM1 x0 x1 x2 x3 x4=>?_)
    | (go_at_call 170;with_reducible refine aV q1 (ff B b _ _ _ _ _ 69 11 _ rfl HM1.out) fun w2 q2 HM2 x0 x1 x2 x3 x4=>?_))
  all_goals go_returns
  all_goals exact ay HM2.out q2 rfl rfl
theorem Dc (x c:UInt8) (f:Bool) (at_:Int) (w:World) (h:aB w B b ((x,p)::r) f at_) (hl:r.length≤99990) (h92:((c.toNat:Int)==92)=false) (h36:((c.toNat:Int)==36)=false) (h96:((c.toNat:Int)==96)=false) (hc40:((c.toNat:Int)==40)=false) (hc41:((c.toNat:Int)==41)=false) :
    bU 204 m c w B b (.tuple #[]) ((x,p)::r) f at_:=by
  obtain⟨x0,x1,x2,x3,x4⟩:=h.cells;have HM:=Lib.hid h;clear h;go_enter Tryz.func204,Tryz.ntmps204
  go_wp2_with (first
    | (go_at_call 220;refine aV (BM.refl _ _) (dB B b _ _ _ _ _ HM.out h92 h36 h96) fun w1 q1 HM1 x0 x1 x2 x3 x4=>?_))
  all_goals go_returns
  all_goals exact ay HM1.out q1 rfl rfl
theorem ie (x c d:UInt8) (f:Bool) (at_:Int) (w:World) (h:aB w B b ((x,p)::r) f at_) (hl:r.length≤99990) (hd:jP c=[d]) :
    bU 205 m c w B b (.tuple #[]) ((d,at_)::(x,p)::r) f at_:=by
  obtain⟨x0,x1,x2,x3,x4⟩:=h.cells;have HM:=Lib.hid h;clear h;go_enter Tryz.func205,Tryz.ntmps205
  go_wp2_with (first
    | (go_at_call 220;refine aV (BM.refl _ _) (jp B b _ _ _ _ _ _ HM.out (by simp) (by simp;omega) hd) fun w1 q1 HM1 x0 x1 x2 x3 x4=>?_))
  all_goals go_returns
  all_goals exact ay HM1.out q1 rfl rfl
theorem xH (h:aB w B b ((68,p)::r) f at_) (hl:r.length≤99990) (ht:r≠[]) :
    bU 205 5 34 w B b (.tuple #[]) r f at_:=by
  obtain⟨x0,x1,x2,x3,x4⟩:=h.cells;have HM:=Lib.hid h;clear h;go_enter Tryz.func205,Tryz.ntmps205
  go_wp2_with (first
    | (go_at_call 220;refine aV (BM.refl _ _) (dB B b _ 34 _ _ _ HM.out (by decide) (by decide) (by decide)) fun w1 q1 HM1 x0 x1 x2 x3 x4=>?_)
    | (go_at_call 171;with_reducible refine aV q1 (dR B b _ _ _ _ _ _ HM1.out ht) fun w2 q2 HM2 x0 x1 x2 x3 x4=>?_))
  all_goals go_returns
  all_goals exact ay HM2.out q2 rfl rfl
theorem uB (x:UInt8) (f:Bool) (at_:Int) (w:World) (h:aB w B b ((x,p)::r) f at_) (hl:r.length≤99990) (hm5:(m==5)=false) :
    bU 205 m 34 w B b (.tuple #[]) ((68,at_)::(x,p)::r) f at_:=by
  obtain⟨x0,x1,x2,x3,x4⟩:=h.cells;have HM:=Lib.hid h;clear h;go_enter Tryz.func205,Tryz.ntmps205
  go_wp2_with (first
    | (go_at_call 220;refine aV (BM.refl _ _) (dB B b _ 34 _ _ _ HM.out (by decide) (by decide) (by decide)) fun w1 q1 HM1 x0 x1 x2 x3 x4=>?_)
    | (go_at_call 203;with_reducible refine aV q1 (eP B b _ _ _ 68 5 _ rfl HM1.out (by simp) (by simp at *;omega)) fun w2 q2 HM2 x0 x1 x2 x3 x4=>?_))
  all_goals go_returns
  all_goals exact ay HM2.out q2 rfl rfl
theorem rh (x:UInt8) (f:Bool) (at_:Int) (w:World) (h:aB w B b ((x,p)::r) f at_) (hl:r.length≤99990) (hm5:(m==5)=false) (hm5n:(m != 5)=true) (ht:r≠[]) :
    bU 205 m 125 w B b (.tuple #[]) r f at_:=by
  obtain⟨x0,x1,x2,x3,x4⟩:=h.cells;have HM:=Lib.hid h;clear h;go_enter Tryz.func205,Tryz.ntmps205
  go_wp2_with (first
    | (go_at_call 220;refine aV (BM.refl _ _) (dB B b _ 125 _ _ _ HM.out (by decide) (by decide) (by decide)) fun w1 q1 HM1 x0 x1 x2 x3 x4=>?_)
    | (go_at_call 171;with_reducible refine aV q1 (dR B b _ _ _ _ _ _ HM1.out ht) fun w2 q2 HM2 x0 x1 x2 x3 x4=>?_))
  all_goals go_returns
  all_goals exact ay HM2.out q2 rfl rfl
theorem xG (h:aB w B b ((86,p)::r) f at_) (hl:r.length≤99990) :
    bU 205 7 39 w B b (.tuple #[]) ((83,at_)::(86,p)::r) f at_:=by
  obtain⟨x0,x1,x2,x3,x4⟩:=h.cells;have HM:=Lib.hid h;clear h;go_enter Tryz.func205,Tryz.ntmps205
  go_wp2_with (first
    | (go_at_call 220;refine aV (BM.refl _ _) (dB B b _ 39 _ _ _ HM.out (by decide) (by decide) (by decide)) fun w1 q1 HM1 x0 x1 x2 x3 x4=>?_)
    | (go_at_call 203;with_reducible refine aV q1 (eP B b _ _ _ 83 4 _ rfl HM1.out (by simp) (by simp at *;omega)) fun w2 q2 HM2 x0 x1 x2 x3 x4=>?_))
  all_goals go_returns
  all_goals exact ay HM2.out q2 rfl rfl
theorem xF (h:aB w B b ((68,p)::r) f at_) (hl:r.length≤99990) (h92:((c.toNat:Int)==92)=false) (h36:((c.toNat:Int)==36)=false) (h96:((c.toNat:Int)==96)=false) (hc34:((c.toNat:Int)==34)=false) :
    bU 205 5 c w B b (.tuple #[]) ((68,p)::r) f at_:=by
  obtain⟨x0,x1,x2,x3,x4⟩:=h.cells;have HM:=Lib.hid h;clear h;go_enter Tryz.func205,Tryz.ntmps205
  go_wp2_with (first
    | (go_at_call 220;refine aV (BM.refl _ _) (dB B b _ _ _ _ _ HM.out h92 h36 h96) fun w1 q1 HM1 x0 x1 x2 x3 x4=>?_))
  all_goals go_returns
  all_goals exact ay HM1.out q1 rfl rfl
theorem xE (h:aB w B b ((73,p)::r) f at_) (hl:r.length≤99990) (h92:((c.toNat:Int)==92)=false) (h36:((c.toNat:Int)==36)=false) (h96:((c.toNat:Int)==96)=false) (hc34:((c.toNat:Int)==34)=false) (hc125:((c.toNat:Int)==125)=false) :
    bU 205 8 c w B b (.tuple #[]) ((73,p)::r) f at_:=by
  obtain⟨x0,x1,x2,x3,x4⟩:=h.cells;have HM:=Lib.hid h;clear h;go_enter Tryz.func205,Tryz.ntmps205
  go_wp2_with (first
    | (go_at_call 220;refine aV (BM.refl _ _) (dB B b _ _ _ _ _ HM.out h92 h36 h96) fun w1 q1 HM1 x0 x1 x2 x3 x4=>?_))
  all_goals go_returns
  all_goals exact ay HM1.out q1 rfl rfl
theorem xD (h:aB w B b ((86,p)::r) f at_) (hl:r.length≤99990) (h92:((c.toNat:Int)==92)=false) (h36:((c.toNat:Int)==36)=false) (h96:((c.toNat:Int)==96)=false) (hc34:((c.toNat:Int)==34)=false) (hc125:((c.toNat:Int)==125)=false) (hc39:((c.toNat:Int)==39)=false) :
    bU 205 7 c w B b (.tuple #[]) ((86,p)::r) f at_:=by
  obtain⟨x0,x1,x2,x3,x4⟩:=h.cells;have HM:=Lib.hid h;clear h;go_enter Tryz.func205,Tryz.ntmps205
  go_wp2_with (first
    | (go_at_call 220;refine aV (BM.refl _ _) (dB B b _ _ _ _ _ HM.out h92 h36 h96) fun w1 q1 HM1 x0 x1 x2 x3 x4=>?_))
  all_goals go_returns
  all_goals exact ay HM1.out q1 rfl rfl
theorem xO (x:UInt8) (f:Bool) (at_:Int) (w:World) (h:aB w B b ((x,p)::r) f at_) (hl:r.length≤99990) :
    bU 202 m 92 w B b (.tuple #[]) ((88,at_)::(x,p)::r) f at_:=by
  obtain⟨x0,x1,x2,x3,x4⟩:=h.cells;have HM:=Lib.hid h;clear h;go_enter Tryz.func202,Tryz.ntmps202
  go_wp2_with (first
    | (go_at_call 203;with_reducible refine aV (BM.refl _ _) (eP B b _ _ _ 88 13 _ rfl HM.out (by simp) (by simp at *;omega)) fun w1 q1 HM1 x0 x1 x2 x3 x4=>?_))
  all_goals go_returns
  all_goals first
    | exact ay HM1.out q1 rfl rfl
    | exact ay (HM1.out.setFresh _) (BM.setCell q1 HM1.out _) rfl (by first|rfl|decide|simp)
theorem xP (x:UInt8) (f:Bool) (at_:Int) (w:World) (h:aB w B b ((x,p)::r) f at_) (hl:r.length≤99990) :
    bU 202 m 39 w B b (.tuple #[]) ((83,at_)::(x,p)::r) false at_:=by
  obtain⟨x0,x1,x2,x3,x4⟩:=h.cells;have HM:=Lib.hid h;clear h;go_enter Tryz.func202,Tryz.ntmps202
  go_wp2_with (first
    | (go_at_call 203;with_reducible refine aV (BM.refl _ _) (eP B b _ _ _ 83 4 _ rfl HM.out (by simp) (by simp at *;omega)) fun w1 q1 HM1 x0 x1 x2 x3 x4=>?_)
    | (go_at_call 168;refine(eG 39 _).mono ?_;rintro e w' ⟨rfl,rfl⟩))
  all_goals go_returns
  all_goals first
    | exact ay HM1.out q1 rfl rfl
    | exact ay (HM1.out.setFresh _) (BM.setCell q1 HM1.out _) rfl (by first|rfl|decide|simp)
theorem xR (x:UInt8) (f:Bool) (at_:Int) (w:World) (h:aB w B b ((x,p)::r) f at_) (hl:r.length≤99990) :
    bU 202 m 34 w B b (.tuple #[]) ((68,at_)::(x,p)::r) false at_:=by
  obtain⟨x0,x1,x2,x3,x4⟩:=h.cells;have HM:=Lib.hid h;clear h;go_enter Tryz.func202,Tryz.ntmps202
  go_wp2_with (first
    | (go_at_call 203;with_reducible refine aV (BM.refl _ _) (eP B b _ _ _ 68 5 _ rfl HM.out (by simp) (by simp at *;omega)) fun w1 q1 HM1 x0 x1 x2 x3 x4=>?_)
    | (go_at_call 168;refine(eG 34 _).mono ?_;rintro e w' ⟨rfl,rfl⟩))
  all_goals go_returns
  all_goals first
    | exact ay HM1.out q1 rfl rfl
    | exact ay (HM1.out.setFresh _) (BM.setCell q1 HM1.out _) rfl (by first|rfl|decide|simp)
theorem xQ (x:UInt8) (f:Bool) (at_:Int) (w:World) (h:aB w B b ((x,p)::r) f at_) (hl:r.length≤99990) :
    bU 202 m 36 w B b (.tuple #[]) ((76,at_)::(x,p)::r) false at_:=by
  obtain⟨x0,x1,x2,x3,x4⟩:=h.cells;have HM:=Lib.hid h;clear h;go_enter Tryz.func202,Tryz.ntmps202
  go_wp2_with (first
    | (go_at_call 220;refine aV (BM.refl _ _) (jp B b _ _ _ 36 76 _ HM.out (by simp) (by simp;omega) (by decide)) fun w1 q1 HM1 x0 x1 x2 x3 x4=>?_)
    | (go_at_call 168;refine(eG 36 _).mono ?_;rintro e w' ⟨rfl,rfl⟩))
  all_goals go_returns
  all_goals first
    | exact ay HM1.out q1 rfl rfl
    | exact ay (HM1.out.setFresh _) (BM.setCell q1 HM1.out _) rfl (by first|rfl|decide|simp)
theorem xN (x:UInt8) (f:Bool) (at_:Int) (w:World) (h:aB w B b ((x,p)::r) f at_) (hl:r.length≤99990) :
    bU 202 m 96 w B b (.tuple #[]) ((66,at_)::(x,p)::r) false at_:=by
  obtain⟨x0,x1,x2,x3,x4⟩:=h.cells;have HM:=Lib.hid h;clear h;go_enter Tryz.func202,Tryz.ntmps202
  go_wp2_with (first
    | (go_at_call 220;refine aV (BM.refl _ _) (jp B b _ _ _ 96 66 _ HM.out (by simp) (by simp;omega) (by decide)) fun w1 q1 HM1 x0 x1 x2 x3 x4=>?_)
    | (go_at_call 168;refine(eG 96 _).mono ?_;rintro e w' ⟨rfl,rfl⟩))
  all_goals go_returns
  all_goals first
    | exact ay HM1.out q1 rfl rfl
    | exact ay (HM1.out.setFresh _) (BM.setCell q1 HM1.out _) rfl (by first|rfl|decide|simp)
theorem ti (x:UInt8) (f:Bool) (at_:Int) (w:World) (h:aB w B b ((x,p)::r) true at_) (hl:r.length≤99990) :
    bU 202 m 35 w B b (.tuple #[]) ((35,at_)::(x,p)::r) true at_:=by
  obtain⟨x0,x1,x2,x3,x4⟩:=h.cells;have HM:=Lib.hid h;clear h;go_enter Tryz.func202,Tryz.ntmps202
  go_wp2_with (first
    | (go_at_call 203;with_reducible refine aV (BM.refl _ _) (eP B b _ _ _ 35 14 _ rfl HM.out (by simp) (by simp at *;omega)) fun w1 q1 HM1 x0 x1 x2 x3 x4=>?_))
  all_goals go_returns
  all_goals first
    | exact ay HM1.out q1 rfl rfl
    | exact ay (HM1.out.setFresh _) (BM.setCell q1 HM1.out _) rfl (by first|rfl|decide|simp)
theorem tj (x:UInt8) (f:Bool) (at_:Int) (w:World) (h:aB w B b ((x,p)::r) false at_) (hl:r.length≤99990) :
    bU 202 m 35 w B b (.tuple #[]) ((x,p)::r) false at_:=by
  obtain⟨x0,x1,x2,x3,x4⟩:=h.cells;have HM:=Lib.hid h;clear h;go_enter Tryz.func202,Tryz.ntmps202
  go_wp2_with (first
    | (go_at_call 168;refine(eG 35 _).mono ?_;rintro e w' ⟨rfl,rfl⟩))
  all_goals go_returns
  all_goals first
    | exact ay HM.out (BM.refl _ _) rfl rfl
    | exact ay (HM.out.setFresh _) (BM.setCell (BM.refl _ _) HM.out _) rfl (by first|rfl|decide|simp)
theorem DF (h:aB w B b ((x,p)::r) f at_) (hl:r.length≤99990) :
    bU 202 0 40 w B b (.tuple #[]) ((x,p)::r) true at_:=by
  obtain⟨x0,x1,x2,x3,x4⟩:=h.cells;have HM:=Lib.hid h;clear h;go_enter Tryz.func202,Tryz.ntmps202
  go_wp2_with (first
    | (go_at_call 168;refine(eG 40 _).mono ?_;rintro e w' ⟨rfl,rfl⟩))
  all_goals go_returns
  all_goals first
    | exact ay HM.out (BM.refl _ _) rfl rfl
    | exact ay (HM.out.setFresh _) (BM.setCell (BM.refl _ _) HM.out _) rfl (by first|rfl|decide|simp)
theorem Bz (h:aB w B b ((x,p)::r) f at_) (hl:r.length≤99990) :
    bU 202 1 40 w B b (.tuple #[]) ((80,at_)::(x,p)::r) true at_:=by
  obtain⟨x0,x1,x2,x3,x4⟩:=h.cells;have HM:=Lib.hid h;clear h;go_enter Tryz.func202,Tryz.ntmps202
  go_wp2_with (first
    | (go_at_call 203;with_reducible refine aV (BM.refl _ _) (eP B b _ _ _ 80 2 _ rfl HM.out (by simp) (by simp at *;omega)) fun w1 q1 HM1 x0 x1 x2 x3 x4=>?_)
    | (go_at_call 168;refine(eG 40 _).mono ?_;rintro e w' ⟨rfl,rfl⟩))
  all_goals go_returns
  all_goals first
    | exact ay HM1.out q1 rfl rfl
    | exact ay (HM1.out.setFresh _) (BM.setCell q1 HM1.out _) rfl (by first|rfl|decide|simp)
theorem By (h:aB w B b ((x,p)::r) f at_) (hl:r.length≤99990) :
    bU 202 2 40 w B b (.tuple #[]) ((80,at_)::(x,p)::r) true at_:=by
  obtain⟨x0,x1,x2,x3,x4⟩:=h.cells;have HM:=Lib.hid h;clear h;go_enter Tryz.func202,Tryz.ntmps202
  go_wp2_with (first
    | (go_at_call 203;with_reducible refine aV (BM.refl _ _) (eP B b _ _ _ 80 2 _ rfl HM.out (by simp) (by simp at *;omega)) fun w1 q1 HM1 x0 x1 x2 x3 x4=>?_)
    | (go_at_call 168;refine(eG 40 _).mono ?_;rintro e w' ⟨rfl,rfl⟩))
  all_goals go_returns
  all_goals first
    | exact ay HM1.out q1 rfl rfl
    | exact ay (HM1.out.setFresh _) (BM.setCell q1 HM1.out _) rfl (by first|rfl|decide|simp)
theorem DD (h:aB w B b ((x,p)::r) f at_) (hl:r.length≤99990) :
    bU 202 0 41 w B b (.tuple #[]) ((x,p)::r) true at_:=by
  obtain⟨x0,x1,x2,x3,x4⟩:=h.cells;have HM:=Lib.hid h;clear h;go_enter Tryz.func202,Tryz.ntmps202;go_wp2_with fail;all_goals go_returns
  all_goals first
    | exact ay HM.out (BM.refl _ _) rfl rfl
    | exact ay (HM.out.setFresh _) (BM.setCell (BM.refl _ _) HM.out _) rfl (by first|rfl|decide|simp)
theorem Bv (h:aB w B b ((x,p)::r) f at_) (hl:r.length≤99990) (ht:r≠[]) :
    bU 202 1 41 w B b (.tuple #[]) r false at_:=by
  obtain⟨x0,x1,x2,x3,x4⟩:=h.cells;have HM:=Lib.hid h;clear h;go_enter Tryz.func202,Tryz.ntmps202
  go_wp2_with (first
    | (go_at_call 171;with_reducible refine aV (BM.refl _ _) (dR B b _ _ _ _ _ _ HM.out ht) fun w1 q1 HM1 x0 x1 x2 x3 x4=>?_))
  all_goals go_returns
  all_goals first
    | exact ay HM1.out q1 rfl rfl
    | exact ay (HM1.out.setFresh _) (BM.setCell q1 HM1.out _) rfl (by first|rfl|decide|simp)
theorem Bu (h:aB w B b ((x,p)::r) f at_) (hl:r.length≤99990) (ht:r≠[]) :
    bU 202 2 41 w B b (.tuple #[]) r true at_:=by
  obtain⟨x0,x1,x2,x3,x4⟩:=h.cells;have HM:=Lib.hid h;clear h;go_enter Tryz.func202,Tryz.ntmps202
  go_wp2_with (first
    | (go_at_call 171;with_reducible refine aV (BM.refl _ _) (dR B b _ _ _ _ _ _ HM.out ht) fun w1 q1 HM1 x0 x1 x2 x3 x4=>?_))
  all_goals go_returns
  all_goals first
    | exact ay HM1.out q1 rfl rfl
    | exact ay (HM1.out.setFresh _) (BM.setCell q1 HM1.out _) rfl (by first|rfl|decide|simp)
theorem xM (x c:UInt8) (f:Bool) (at_:Int) (w:World) (h:aB w B b ((x,p)::r) f at_) (hl:r.length≤99990) (hc92:((c.toNat:Int)==92)=false) (hc39:((c.toNat:Int)==39)=false) (hc34:((c.toNat:Int)==34)=false) (hc96:((c.toNat:Int)==96)=false) (hc36:((c.toNat:Int)==36)=false) (hc35:((c.toNat:Int)==35)=false) (hc40:((c.toNat:Int)==40)=false) (hc41:((c.toNat:Int)==41)=false) :
    bU 202 m c w B b (.tuple #[]) ((x,p)::r) (dv c) at_:=by
  obtain⟨x0,x1,x2,x3,x4⟩:=h.cells;have HM:=Lib.hid h;clear h;go_enter Tryz.func202,Tryz.ntmps202
  go_wp2_with (first
    | (go_at_call 168;refine(eG c _).mono ?_;rintro e w' ⟨rfl,rfl⟩))
  all_goals go_returns
  all_goals first
    | exact ay HM.out (BM.refl _ _) rfl rfl
    | exact ay (HM.out.setFresh _) (BM.setCell (BM.refl _ _) HM.out _) rfl (by first|rfl|decide|simp)
theorem bf (b v:UInt8) (h:b≠v):((b.toNat:Int)==(v.toNat:Int))=false:=by
  rw[beq_eq_false_iff_ne];intro e;exact h (UInt8.toNat_inj.1 (by omega))
theorem nn {b v:UInt8} (h:b≠v):b.toNat≠v.toNat:=fun e=>h (UInt8.toNat_inj.1 e)
theorem Aa (r:bp) (p:Int) (b:UInt8) (f:Bool) (at_:Int) (w:World) (h:aB w B b0 ((65,p)::r) f at_) (hl:r.length≤99990) (ht:r≠[]) :
    bU 204 9 b w B b0 (.tuple #[]) (aa ((65,p)::r) f 65 b at_).1 (aa ((65,p)::r) f 65 b at_).2 at_:=by
  rcases Decidable.em (b=92) with rfl|hb92
  ·have e:aa ((65,p)::r) f 65 92 at_=(((88,at_)::(65,p)::r),f):=by simp[aa,aj]
   rw[e];exact lU B b0 r p 9 65 92 88 f at_ w h hl (by decide)
  have n92:b.toNat≠92:=nn hb92;rcases Decidable.em (b=36) with rfl|hb36
  ·have e:aa ((65,p)::r) f 65 36 at_=(((76,at_)::(65,p)::r),f):=by simp[aa,aj]
   rw[e];exact lU B b0 r p 9 65 36 76 f at_ w h hl (by decide)
  have n36:b.toNat≠36:=nn hb36;rcases Decidable.em (b=96) with rfl|hb96
  ·have e:aa ((65,p)::r) f 65 96 at_=(((66,at_)::(65,p)::r),f):=by simp[aa,aj]
   rw[e];exact lU B b0 r p 9 65 96 66 f at_ w h hl (by decide)
  have n96:b.toNat≠96:=nn hb96;rcases Decidable.em (b=40) with rfl|hb40
  ·have e:aa ((65,p)::r) f 65 40 at_=(((82,at_)::(65,p)::r),f):=by simp[aa,aj]
   rw[e];exact Dd B b0 r p 9 65 f at_ w h hl
  have n40:b.toNat≠40:=nn hb40;rcases Decidable.em (b=41) with rfl|hb41
  ·have e:aa ((65,p)::r) f 65 41 at_=(((69,p)::r),f):=by simp[aa,aj]
   rw[e];exact Ad B b0 r p f at_ w h hl
  have n41:b.toNat≠41:=nn hb41;have e:aa ((65,p)::r) f 65 b at_=(((65,p)::r),f):=by simp[aa,aj,n92,n36,n96,n40,n41]
  rw[e];exact Dc B b0 r p 9 65 b f at_ w h hl (bf b 92 hb92) (bf b 36 hb36) (bf b 96 hb96) (bf b 40 hb40) (bf b 41 hb41)
theorem z8 (r:bp) (p:Int) (b:UInt8) (f:Bool) (at_:Int) (w:World) (h:aB w B b0 ((82,p)::r) f at_) (hl:r.length≤99990) (ht:r≠[]) :
    bU 204 10 b w B b0 (.tuple #[]) (aa ((82,p)::r) f 82 b at_).1 (aa ((82,p)::r) f 82 b at_).2 at_:=by
  rcases Decidable.em (b=92) with rfl|hb92
  ·have e:aa ((82,p)::r) f 82 92 at_=(((88,at_)::(82,p)::r),f):=by simp[aa,aj]
   rw[e];exact lU B b0 r p 10 82 92 88 f at_ w h hl (by decide)
  have n92:b.toNat≠92:=nn hb92;rcases Decidable.em (b=36) with rfl|hb36
  ·have e:aa ((82,p)::r) f 82 36 at_=(((76,at_)::(82,p)::r),f):=by simp[aa,aj]
   rw[e];exact lU B b0 r p 10 82 36 76 f at_ w h hl (by decide)
  have n36:b.toNat≠36:=nn hb36;rcases Decidable.em (b=96) with rfl|hb96
  ·have e:aa ((82,p)::r) f 82 96 at_=(((66,at_)::(82,p)::r),f):=by simp[aa,aj]
   rw[e];exact lU B b0 r p 10 82 96 66 f at_ w h hl (by decide)
  have n96:b.toNat≠96:=nn hb96;rcases Decidable.em (b=40) with rfl|hb40
  ·have e:aa ((82,p)::r) f 82 40 at_=(((82,at_)::(82,p)::r),f):=by simp[aa,aj]
   rw[e];exact Dd B b0 r p 10 82 f at_ w h hl
  have n40:b.toNat≠40:=nn hb40;rcases Decidable.em (b=41) with rfl|hb41
  ·have e:aa ((82,p)::r) f 82 41 at_=(r,f):=by simp[aa,aj]
   rw[e];exact Ac B b0 r p f at_ w h hl ht
  have n41:b.toNat≠41:=nn hb41;have e:aa ((82,p)::r) f 82 b at_=(((82,p)::r),f):=by simp[aa,aj,n92,n36,n96,n40,n41]
  rw[e];exact Dc B b0 r p 10 82 b f at_ w h hl (bf b 92 hb92) (bf b 36 hb36) (bf b 96 hb96) (bf b 40 hb40) (bf b 41 hb41)
theorem vI (r:bp) (p:Int) (b:UInt8) (f:Bool) (at_:Int) (w:World) (h:aB w B b0 ((68,p)::r) f at_) (hl:r.length≤99990) (ht:r≠[]) :
    bU 205 5 b w B b0 (.tuple #[]) (aa ((68,p)::r) f 68 b at_).1 (aa ((68,p)::r) f 68 b at_).2 at_:=by
  rcases Decidable.em (b=92) with rfl|hb92
  ·have e:aa ((68,p)::r) f 68 92 at_=(((88,at_)::(68,p)::r),f):=by simp[aa,aj]
   rw[e];exact ie B b0 r p 5 68 92 88 f at_ w h hl (by decide)
  have n92:b.toNat≠92:=nn hb92;rcases Decidable.em (b=36) with rfl|hb36
  ·have e:aa ((68,p)::r) f 68 36 at_=(((76,at_)::(68,p)::r),f):=by simp[aa,aj]
   rw[e];exact ie B b0 r p 5 68 36 76 f at_ w h hl (by decide)
  have n36:b.toNat≠36:=nn hb36;rcases Decidable.em (b=96) with rfl|hb96
  ·have e:aa ((68,p)::r) f 68 96 at_=(((66,at_)::(68,p)::r),f):=by simp[aa,aj]
   rw[e];exact ie B b0 r p 5 68 96 66 f at_ w h hl (by decide)
  have n96:b.toNat≠96:=nn hb96;rcases Decidable.em (b=34) with rfl|hb34
  ·have e:aa ((68,p)::r) f 68 34 at_=(r,f):=by simp[aa,aj]
   rw[e];exact xH B b0 r p f at_ w h hl ht
  have n34:b.toNat≠34:=nn hb34;have e:aa ((68,p)::r) f 68 b at_=(((68,p)::r),f):=by simp[aa,aj,n92,n36,n96,n34]
  rw[e];exact xF B b0 r p b f at_ w h hl (bf b 92 hb92) (bf b 36 hb36) (bf b 96 hb96) (bf b 34 hb34)
theorem vH (r:bp) (p:Int) (b:UInt8) (f:Bool) (at_:Int) (w:World) (h:aB w B b0 ((73,p)::r) f at_) (hl:r.length≤99990) (ht:r≠[]) :
    bU 205 8 b w B b0 (.tuple #[]) (aa ((73,p)::r) f 73 b at_).1 (aa ((73,p)::r) f 73 b at_).2 at_:=by
  rcases Decidable.em (b=92) with rfl|hb92
  ·have e:aa ((73,p)::r) f 73 92 at_=(((88,at_)::(73,p)::r),f):=by simp[aa,aj]
   rw[e];exact ie B b0 r p 8 73 92 88 f at_ w h hl (by decide)
  have n92:b.toNat≠92:=nn hb92;rcases Decidable.em (b=36) with rfl|hb36
  ·have e:aa ((73,p)::r) f 73 36 at_=(((76,at_)::(73,p)::r),f):=by simp[aa,aj]
   rw[e];exact ie B b0 r p 8 73 36 76 f at_ w h hl (by decide)
  have n36:b.toNat≠36:=nn hb36;rcases Decidable.em (b=96) with rfl|hb96
  ·have e:aa ((73,p)::r) f 73 96 at_=(((66,at_)::(73,p)::r),f):=by simp[aa,aj]
   rw[e];exact ie B b0 r p 8 73 96 66 f at_ w h hl (by decide)
  have n96:b.toNat≠96:=nn hb96;rcases Decidable.em (b=34) with rfl|hb34
  ·have e:aa ((73,p)::r) f 73 34 at_=(((68,at_)::(73,p)::r),f):=by simp[aa,aj]
   rw[e];exact uB B b0 r p 8 73 f at_ w h hl rfl
  have n34:b.toNat≠34:=nn hb34;rcases Decidable.em (b=125) with rfl|hb125
  ·have e:aa ((73,p)::r) f 73 125 at_=(r,f):=by simp[aa,aj]
   rw[e];exact rh B b0 r p 8 73 f at_ w h hl rfl rfl ht
  have n125:b.toNat≠125:=nn hb125;have e:aa ((73,p)::r) f 73 b at_=(((73,p)::r),f):=by simp[aa,aj,n92,n36,n96,n34,n125]
  rw[e];exact xE B b0 r p b f at_ w h hl (bf b 92 hb92) (bf b 36 hb36) (bf b 96 hb96) (bf b 34 hb34) (bf b 125 hb125)
theorem vG (r:bp) (p:Int) (b:UInt8) (f:Bool) (at_:Int) (w:World) (h:aB w B b0 ((86,p)::r) f at_) (hl:r.length≤99990) (ht:r≠[]) :
    bU 205 7 b w B b0 (.tuple #[]) (aa ((86,p)::r) f 86 b at_).1 (aa ((86,p)::r) f 86 b at_).2 at_:=by
  rcases Decidable.em (b=92) with rfl|hb92
  ·have e:aa ((86,p)::r) f 86 92 at_=(((88,at_)::(86,p)::r),f):=by simp[aa,aj]
   rw[e];exact ie B b0 r p 7 86 92 88 f at_ w h hl (by decide)
  have n92:b.toNat≠92:=nn hb92;rcases Decidable.em (b=36) with rfl|hb36
  ·have e:aa ((86,p)::r) f 86 36 at_=(((76,at_)::(86,p)::r),f):=by simp[aa,aj]
   rw[e];exact ie B b0 r p 7 86 36 76 f at_ w h hl (by decide)
  have n36:b.toNat≠36:=nn hb36;rcases Decidable.em (b=96) with rfl|hb96
  ·have e:aa ((86,p)::r) f 86 96 at_=(((66,at_)::(86,p)::r),f):=by simp[aa,aj]
   rw[e];exact ie B b0 r p 7 86 96 66 f at_ w h hl (by decide)
  have n96:b.toNat≠96:=nn hb96;rcases Decidable.em (b=34) with rfl|hb34
  ·have e:aa ((86,p)::r) f 86 34 at_=(((68,at_)::(86,p)::r),f):=by simp[aa,aj]
   rw[e];exact uB B b0 r p 7 86 f at_ w h hl rfl
  have n34:b.toNat≠34:=nn hb34;rcases Decidable.em (b=125) with rfl|hb125
  ·have e:aa ((86,p)::r) f 86 125 at_=(r,f):=by simp[aa,aj]
   rw[e];exact rh B b0 r p 7 86 f at_ w h hl rfl rfl ht
  have n125:b.toNat≠125:=nn hb125;rcases Decidable.em (b=39) with rfl|hb39
  ·have e:aa ((86,p)::r) f 86 39 at_=(((83,at_)::(86,p)::r),f):=by simp[aa,aj]
   rw[e];exact xG B b0 r p f at_ w h hl
  have n39:b.toNat≠39:=nn hb39;have e:aa ((86,p)::r) f 86 b at_=(((86,p)::r),f):=by simp[aa,aj,n92,n36,n96,n34,n125,n39]
  rw[e];exact xD B b0 r p b f at_ w h hl (bf b 92 hb92) (bf b 36 hb36) (bf b 96 hb96) (bf b 34 hb34) (bf b 125 hb125) (bf b 39 hb39)
theorem te (r:bp) (p:Int) (b:UInt8) (f:Bool) (at_:Int) (w:World) (h:aB w B b0 ((84,p)::r) f at_) (hl:r.length≤99990) :
    bU 202 0 b w B b0 (.tuple #[]) (aa ((84,p)::r) f 84 b at_).1 (aa ((84,p)::r) f 84 b at_).2 at_:=by
  rcases Decidable.em (b=92) with rfl|hb92
  ·have e:aa ((84,p)::r) f 84 92 at_=(((88,at_)::(84,p)::r),f):=by simp[aa,aj]
   rw[e];exact xO B b0 r p 0 84 f at_ w h hl
  have n92:b.toNat≠92:=nn hb92;rcases Decidable.em (b=39) with rfl|hb39
  ·have e:aa ((84,p)::r) f 84 39 at_=(((83,at_)::(84,p)::r),false):=by simp[aa,aj]
   rw[e];exact xP B b0 r p 0 84 f at_ w h hl
  have n39:b.toNat≠39:=nn hb39;rcases Decidable.em (b=34) with rfl|hb34
  ·have e:aa ((84,p)::r) f 84 34 at_=(((68,at_)::(84,p)::r),false):=by simp[aa,aj]
   rw[e];exact xR B b0 r p 0 84 f at_ w h hl
  have n34:b.toNat≠34:=nn hb34;rcases Decidable.em (b=96) with rfl|hb96
  ·have e:aa ((84,p)::r) f 84 96 at_=(((66,at_)::(84,p)::r),false):=by simp[aa,aj]
   rw[e];exact xN B b0 r p 0 84 f at_ w h hl
  have n96:b.toNat≠96:=nn hb96;rcases Decidable.em (b=36) with rfl|hb36
  ·have e:aa ((84,p)::r) f 84 36 at_=(((76,at_)::(84,p)::r),false):=by simp[aa,aj]
   rw[e];exact xQ B b0 r p 0 84 f at_ w h hl
  have n36:b.toNat≠36:=nn hb36;rcases Decidable.em (b=40) with rfl|hb40
  ·have e:aa ((84,p)::r) f 84 40 at_=(((84,p)::r),true):=by simp[aa,aj]
   rw[e];exact DF B b0 r p 84 f at_ w h hl
  have n40:b.toNat≠40:=nn hb40;rcases Decidable.em (b=41) with rfl|hb41
  ·have e:aa ((84,p)::r) f 84 41 at_=(((84,p)::r),true):=by simp[aa,aj]
   rw[e];exact DD B b0 r p 84 f at_ w h hl
  have n41:b.toNat≠41:=nn hb41;rcases Decidable.em (b=35) with rfl|hb35
  ·cases f
   ·have e:aa ((84,p)::r) false 84 35 at_=(((84,p)::r),false):=by simp[aa,aj,dv,cw]
    rw[e];exact tj B b0 r p 0 84 false at_ w h hl
   ·have e:aa ((84,p)::r) true 84 35 at_=(((35,at_)::(84,p)::r),true):=by simp[aa,aj]
    rw[e];exact ti B b0 r p 0 84 true at_ w h hl
  have n35:b.toNat≠35:=nn hb35;have e:aa ((84,p)::r) f 84 b at_=(((84,p)::r),dv b):=by simp[aa,aj,n92,n39,n34,n96,n36,n40,n41,n35]
  rw[e];exact xM B b0 r p 0 84 b f at_ w h hl (bf b 92 hb92) (bf b 39 hb39) (bf b 34 hb34) (bf b 96 hb96) (bf b 36 hb36) (bf b 35 hb35) (bf b 40 hb40) (bf b 41 hb41)
theorem tg (r:bp) (p:Int) (b:UInt8) (f:Bool) (at_:Int) (w:World) (h:aB w B b0 ((67,p)::r) f at_) (hl:r.length≤99990) (ht:r≠[]) :
    bU 202 1 b w B b0 (.tuple #[]) (aa ((67,p)::r) f 67 b at_).1 (aa ((67,p)::r) f 67 b at_).2 at_:=by
  rcases Decidable.em (b=92) with rfl|hb92
  ·have e:aa ((67,p)::r) f 67 92 at_=(((88,at_)::(67,p)::r),f):=by simp[aa,aj]
   rw[e];exact xO B b0 r p 1 67 f at_ w h hl
  have n92:b.toNat≠92:=nn hb92;rcases Decidable.em (b=39) with rfl|hb39
  ·have e:aa ((67,p)::r) f 67 39 at_=(((83,at_)::(67,p)::r),false):=by simp[aa,aj]
   rw[e];exact xP B b0 r p 1 67 f at_ w h hl
  have n39:b.toNat≠39:=nn hb39;rcases Decidable.em (b=34) with rfl|hb34
  ·have e:aa ((67,p)::r) f 67 34 at_=(((68,at_)::(67,p)::r),false):=by simp[aa,aj]
   rw[e];exact xR B b0 r p 1 67 f at_ w h hl
  have n34:b.toNat≠34:=nn hb34;rcases Decidable.em (b=96) with rfl|hb96
  ·have e:aa ((67,p)::r) f 67 96 at_=(((66,at_)::(67,p)::r),false):=by simp[aa,aj]
   rw[e];exact xN B b0 r p 1 67 f at_ w h hl
  have n96:b.toNat≠96:=nn hb96;rcases Decidable.em (b=36) with rfl|hb36
  ·have e:aa ((67,p)::r) f 67 36 at_=(((76,at_)::(67,p)::r),false):=by simp[aa,aj]
   rw[e];exact xQ B b0 r p 1 67 f at_ w h hl
  have n36:b.toNat≠36:=nn hb36;rcases Decidable.em (b=40) with rfl|hb40
  ·have e:aa ((67,p)::r) f 67 40 at_=(((80,at_)::(67,p)::r),true):=by simp[aa,aj]
   rw[e];exact Bz B b0 r p 67 f at_ w h hl
  have n40:b.toNat≠40:=nn hb40;rcases Decidable.em (b=41) with rfl|hb41
  ·have e:aa ((67,p)::r) f 67 41 at_=(r,false):=by simp[aa,aj]
   rw[e];exact Bv B b0 r p 67 f at_ w h hl ht
  have n41:b.toNat≠41:=nn hb41;rcases Decidable.em (b=35) with rfl|hb35
  ·cases f
   ·have e:aa ((67,p)::r) false 67 35 at_=(((67,p)::r),false):=by simp[aa,aj,dv,cw]
    rw[e];exact tj B b0 r p 1 67 false at_ w h hl
   ·have e:aa ((67,p)::r) true 67 35 at_=(((35,at_)::(67,p)::r),true):=by simp[aa,aj]
    rw[e];exact ti B b0 r p 1 67 true at_ w h hl
  have n35:b.toNat≠35:=nn hb35;have e:aa ((67,p)::r) f 67 b at_=(((67,p)::r),dv b):=by simp[aa,aj,n92,n39,n34,n96,n36,n40,n41,n35]
  rw[e];exact xM B b0 r p 1 67 b f at_ w h hl (bf b 92 hb92) (bf b 39 hb39) (bf b 34 hb34) (bf b 96 hb96) (bf b 36 hb36) (bf b 35 hb35) (bf b 40 hb40) (bf b 41 hb41)
theorem tf (r:bp) (p:Int) (b:UInt8) (f:Bool) (at_:Int) (w:World) (h:aB w B b0 ((80,p)::r) f at_) (hl:r.length≤99990) (ht:r≠[]) :
    bU 202 2 b w B b0 (.tuple #[]) (aa ((80,p)::r) f 80 b at_).1 (aa ((80,p)::r) f 80 b at_).2 at_:=by
  rcases Decidable.em (b=92) with rfl|hb92
  ·have e:aa ((80,p)::r) f 80 92 at_=(((88,at_)::(80,p)::r),f):=by simp[aa,aj]
   rw[e];exact xO B b0 r p 2 80 f at_ w h hl
  have n92:b.toNat≠92:=nn hb92;rcases Decidable.em (b=39) with rfl|hb39
  ·have e:aa ((80,p)::r) f 80 39 at_=(((83,at_)::(80,p)::r),false):=by simp[aa,aj]
   rw[e];exact xP B b0 r p 2 80 f at_ w h hl
  have n39:b.toNat≠39:=nn hb39;rcases Decidable.em (b=34) with rfl|hb34
  ·have e:aa ((80,p)::r) f 80 34 at_=(((68,at_)::(80,p)::r),false):=by simp[aa,aj]
   rw[e];exact xR B b0 r p 2 80 f at_ w h hl
  have n34:b.toNat≠34:=nn hb34;rcases Decidable.em (b=96) with rfl|hb96
  ·have e:aa ((80,p)::r) f 80 96 at_=(((66,at_)::(80,p)::r),false):=by simp[aa,aj]
   rw[e];exact xN B b0 r p 2 80 f at_ w h hl
  have n96:b.toNat≠96:=nn hb96;rcases Decidable.em (b=36) with rfl|hb36
  ·have e:aa ((80,p)::r) f 80 36 at_=(((76,at_)::(80,p)::r),false):=by simp[aa,aj]
   rw[e];exact xQ B b0 r p 2 80 f at_ w h hl
  have n36:b.toNat≠36:=nn hb36;rcases Decidable.em (b=40) with rfl|hb40
  ·have e:aa ((80,p)::r) f 80 40 at_=(((80,at_)::(80,p)::r),true):=by simp[aa,aj]
   rw[e];exact By B b0 r p 80 f at_ w h hl
  have n40:b.toNat≠40:=nn hb40;rcases Decidable.em (b=41) with rfl|hb41
  ·have e:aa ((80,p)::r) f 80 41 at_=(r,true):=by simp[aa,aj]
   rw[e];exact Bu B b0 r p 80 f at_ w h hl ht
  have n41:b.toNat≠41:=nn hb41;rcases Decidable.em (b=35) with rfl|hb35
  ·cases f
   ·have e:aa ((80,p)::r) false 80 35 at_=(((80,p)::r),false):=by simp[aa,aj,dv,cw]
    rw[e];exact tj B b0 r p 2 80 false at_ w h hl
   ·have e:aa ((80,p)::r) true 80 35 at_=(((35,at_)::(80,p)::r),true):=by simp[aa,aj]
    rw[e];exact ti B b0 r p 2 80 true at_ w h hl
  have n35:b.toNat≠35:=nn hb35;have e:aa ((80,p)::r) f 80 b at_=(((80,p)::r),dv b):=by simp[aa,aj,n92,n39,n34,n96,n36,n40,n41,n35]
  rw[e];exact xM B b0 r p 2 80 b f at_ w h hl (bf b 92 hb92) (bf b 39 hb39) (bf b 34 hb34) (bf b 96 hb96) (bf b 36 hb36) (bf b 35 hb35) (bf b 40 hb40) (bf b 41 hb41)
theorem EX (h:aB w B b ((84,p)::r) f at_) (hl:r.length≤99990) :
    bU 172 0 c w B b (.tuple #[]) (aa ((84,p)::r) f 84 c at_).1 (aa ((84,p)::r) f 84 c at_).2 at_:=by
  obtain⟨x0,x1,x2,x3,x4⟩:=h.cells;have HM:=Lib.hid h;clear h;go_enter Tryz.func172,Tryz.ntmps172
  go_wp2_with (first
    | (go_at_call 202;refine aV (BM.refl _ _) (te B b r p _ _ _ _ HM.out hl) fun w1 q1 HM1 x0 x1 x2 x3 x4=>?_))
  all_goals go_returns
  all_goals first
    | exact ay HM1.out q1 rfl rfl
    | exact ay (HM1.out.setFresh _) (BM.setCell q1 HM1.out _) rfl rfl
theorem E7 (h:aB w B b ((67,p)::r) f at_) (hl:r.length≤99990) (ht:r≠[]) :
    bU 172 1 c w B b (.tuple #[]) (aa ((67,p)::r) f 67 c at_).1 (aa ((67,p)::r) f 67 c at_).2 at_:=by
  obtain⟨x0,x1,x2,x3,x4⟩:=h.cells;have HM:=Lib.hid h;clear h;go_enter Tryz.func172,Tryz.ntmps172
  go_wp2_with (first
    | (go_at_call 202;refine aV (BM.refl _ _) (tg B b r p _ _ _ _ HM.out hl ht) fun w1 q1 HM1 x0 x1 x2 x3 x4=>?_))
  all_goals go_returns
  all_goals first
    | exact ay HM1.out q1 rfl rfl
    | exact ay (HM1.out.setFresh _) (BM.setCell q1 HM1.out _) rfl rfl
theorem EZ (h:aB w B b ((80,p)::r) f at_) (hl:r.length≤99990) (ht:r≠[]) :
    bU 172 2 c w B b (.tuple #[]) (aa ((80,p)::r) f 80 c at_).1 (aa ((80,p)::r) f 80 c at_).2 at_:=by
  obtain⟨x0,x1,x2,x3,x4⟩:=h.cells;have HM:=Lib.hid h;clear h;go_enter Tryz.func172,Tryz.ntmps172
  go_wp2_with (first
    | (go_at_call 202;refine aV (BM.refl _ _) (tf B b r p _ _ _ _ HM.out hl ht) fun w1 q1 HM1 x0 x1 x2 x3 x4=>?_))
  all_goals go_returns
  all_goals first
    | exact ay HM1.out q1 rfl rfl
    | exact ay (HM1.out.setFresh _) (BM.setCell q1 HM1.out _) rfl rfl
theorem Fa (h:aB w B b ((65,p)::r) f at_) (hl:r.length≤99990) (ht:r≠[]) :
    bU 172 9 c w B b (.tuple #[]) (aa ((65,p)::r) f 65 c at_).1 (aa ((65,p)::r) f 65 c at_).2 at_:=by
  obtain⟨x0,x1,x2,x3,x4⟩:=h.cells;have HM:=Lib.hid h;clear h;go_enter Tryz.func172,Tryz.ntmps172
  go_wp2_with (first
    | (go_at_call 204;refine aV (BM.refl _ _) (Aa B b r p _ _ _ _ HM.out hl ht) fun w1 q1 HM1 x0 x1 x2 x3 x4=>?_))
  all_goals go_returns
  all_goals first
    | exact ay HM1.out q1 rfl rfl
    | exact ay (HM1.out.setFresh _) (BM.setCell q1 HM1.out _) rfl rfl
theorem EY (h:aB w B b ((82,p)::r) f at_) (hl:r.length≤99990) (ht:r≠[]) :
    bU 172 10 c w B b (.tuple #[]) (aa ((82,p)::r) f 82 c at_).1 (aa ((82,p)::r) f 82 c at_).2 at_:=by
  obtain⟨x0,x1,x2,x3,x4⟩:=h.cells;have HM:=Lib.hid h;clear h;go_enter Tryz.func172,Tryz.ntmps172
  go_wp2_with (first
    | (go_at_call 204;refine aV (BM.refl _ _) (z8 B b r p _ _ _ _ HM.out hl ht) fun w1 q1 HM1 x0 x1 x2 x3 x4=>?_))
  all_goals go_returns
  all_goals first
    | exact ay HM1.out q1 rfl rfl
    | exact ay (HM1.out.setFresh _) (BM.setCell q1 HM1.out _) rfl rfl
theorem E6 (h:aB w B b ((68,p)::r) f at_) (hl:r.length≤99990) (ht:r≠[]) :
    bU 172 5 c w B b (.tuple #[]) (aa ((68,p)::r) f 68 c at_).1 (aa ((68,p)::r) f 68 c at_).2 at_:=by
  obtain⟨x0,x1,x2,x3,x4⟩:=h.cells;have HM:=Lib.hid h;clear h;go_enter Tryz.func172,Tryz.ntmps172
  go_wp2_with (first
    | (go_at_call 205;refine aV (BM.refl _ _) (vI B b r p _ _ _ _ HM.out hl ht) fun w1 q1 HM1 x0 x1 x2 x3 x4=>?_))
  all_goals go_returns
  all_goals first
    | exact ay HM1.out q1 rfl rfl
    | exact ay (HM1.out.setFresh _) (BM.setCell q1 HM1.out _) rfl rfl
theorem E5 (h:aB w B b ((73,p)::r) f at_) (hl:r.length≤99990) (ht:r≠[]) :
    bU 172 8 c w B b (.tuple #[]) (aa ((73,p)::r) f 73 c at_).1 (aa ((73,p)::r) f 73 c at_).2 at_:=by
  obtain⟨x0,x1,x2,x3,x4⟩:=h.cells;have HM:=Lib.hid h;clear h;go_enter Tryz.func172,Tryz.ntmps172
  go_wp2_with (first
    | (go_at_call 205;refine aV (BM.refl _ _) (vH B b r p _ _ _ _ HM.out hl ht) fun w1 q1 HM1 x0 x1 x2 x3 x4=>?_))
  all_goals go_returns
  all_goals first
    | exact ay HM1.out q1 rfl rfl
    | exact ay (HM1.out.setFresh _) (BM.setCell q1 HM1.out _) rfl rfl
theorem EW (h:aB w B b ((86,p)::r) f at_) (hl:r.length≤99990) (ht:r≠[]) :
    bU 172 7 c w B b (.tuple #[]) (aa ((86,p)::r) f 86 c at_).1 (aa ((86,p)::r) f 86 c at_).2 at_:=by
  obtain⟨x0,x1,x2,x3,x4⟩:=h.cells;have HM:=Lib.hid h;clear h;go_enter Tryz.func172,Tryz.ntmps172
  go_wp2_with (first
    | (go_at_call 205;refine aV (BM.refl _ _) (vG B b r p _ _ _ _ HM.out hl ht) fun w1 q1 HM1 x0 x1 x2 x3 x4=>?_))
  all_goals go_returns
  all_goals first
    | exact ay HM1.out q1 rfl rfl
    | exact ay (HM1.out.setFresh _) (BM.setCell q1 HM1.out _) rfl rfl
theorem vK (f:Bool) (at_:Int) (w:World) (h:aB w B b ((88,p)::r) true at_) (hl:r.length≤99990) (ht:r≠[]) :
    bU 172 13 10 w B b (.tuple #[]) r true at_:=by
  obtain⟨x0,x1,x2,x3,x4⟩:=h.cells;have HM:=Lib.hid h;clear h;go_enter Tryz.func172,Tryz.ntmps172
  go_wp2_with (first
    | (go_at_call 171;with_reducible refine aV (BM.refl _ _) (dR B b _ _ _ _ _ _ HM.out ht) fun w1 q1 HM1 x0 x1 x2 x3 x4=>?_))
  all_goals go_returns
  all_goals first
    | exact ay HM1.out q1 rfl rfl
    | exact ay (HM1.out.setFresh _) (BM.setCell q1 HM1.out _) rfl rfl
theorem xS (f:Bool) (at_:Int) (w:World) (h:aB w B b ((88,p)::r) true at_) (hl:r.length≤99990) (ht:r≠[]) (hc10:((c.toNat:Int)==10)=false) :
    bU 172 13 c w B b (.tuple #[]) r false at_:=by
  obtain⟨x0,x1,x2,x3,x4⟩:=h.cells;have HM:=Lib.hid h;clear h;go_enter Tryz.func172,Tryz.ntmps172
  go_wp2_with (first
    | (go_at_call 171;with_reducible refine aV (BM.refl _ _) (dR B b _ _ _ _ _ _ HM.out ht) fun w1 q1 HM1 x0 x1 x2 x3 x4=>?_))
  all_goals go_returns
  all_goals first
    | exact ay HM1.out q1 rfl rfl
    | exact ay (HM1.out.setFresh _) (BM.setCell q1 HM1.out _) rfl rfl
theorem vL (f:Bool) (at_:Int) (w:World) (h:aB w B b ((88,p)::r) false at_) (hl:r.length≤99990) (ht:r≠[]) :
    bU 172 13 10 w B b (.tuple #[]) r false at_:=by
  obtain⟨x0,x1,x2,x3,x4⟩:=h.cells;have HM:=Lib.hid h;clear h;go_enter Tryz.func172,Tryz.ntmps172
  go_wp2_with (first
    | (go_at_call 171;with_reducible refine aV (BM.refl _ _) (dR B b _ _ _ _ _ _ HM.out ht) fun w1 q1 HM1 x0 x1 x2 x3 x4=>?_))
  all_goals go_returns
  all_goals first
    | exact ay HM1.out q1 rfl rfl
    | exact ay (HM1.out.setFresh _) (BM.setCell q1 HM1.out _) rfl rfl
theorem xT (f:Bool) (at_:Int) (w:World) (h:aB w B b ((88,p)::r) false at_) (hl:r.length≤99990) (ht:r≠[]) (hc10:((c.toNat:Int)==10)=false) :
    bU 172 13 c w B b (.tuple #[]) r false at_:=by
  obtain⟨x0,x1,x2,x3,x4⟩:=h.cells;have HM:=Lib.hid h;clear h;go_enter Tryz.func172,Tryz.ntmps172
  go_wp2_with (first
    | (go_at_call 171;with_reducible refine aV (BM.refl _ _) (dR B b _ _ _ _ _ _ HM.out ht) fun w1 q1 HM1 x0 x1 x2 x3 x4=>?_))
  all_goals go_returns
  all_goals first
    | exact ay HM1.out q1 rfl rfl
    | exact ay (HM1.out.setFresh _) (BM.setCell q1 HM1.out _) rfl rfl
theorem xU (h:aB w B b ((83,p)::r) f at_) (hl:r.length≤99990) (ht:r≠[]) :
    bU 172 4 39 w B b (.tuple #[]) r f at_:=by
  obtain⟨x0,x1,x2,x3,x4⟩:=h.cells;have HM:=Lib.hid h;clear h;go_enter Tryz.func172,Tryz.ntmps172
  go_wp2_with (first
    | (go_at_call 171;with_reducible refine aV (BM.refl _ _) (dR B b _ _ _ _ _ _ HM.out ht) fun w1 q1 HM1 x0 x1 x2 x3 x4=>?_))
  all_goals go_returns
  all_goals first
    | exact ay HM1.out q1 rfl rfl
    | exact ay (HM1.out.setFresh _) (BM.setCell q1 HM1.out _) rfl rfl
theorem BA (h:aB w B b ((83,p)::r) f at_) (hl:r.length≤99990) (hc39:((c.toNat:Int)==39)=false) :
    bU 172 4 c w B b (.tuple #[]) ((83,p)::r) f at_:=by
  obtain⟨x0,x1,x2,x3,x4⟩:=h.cells;have HM:=Lib.hid h;clear h;go_enter Tryz.func172,Tryz.ntmps172;go_wp2_with fail;all_goals go_returns
  all_goals first
    | exact ay HM.out (BM.refl _ _) rfl rfl
    | exact ay (HM.out.setFresh _) (BM.setCell (BM.refl _ _) HM.out _) rfl rfl
theorem xY (h:aB w B b ((35,p)::r) f at_) (hl:r.length≤99990) (ht:r≠[]) :
    bU 172 14 10 w B b (.tuple #[]) r true at_:=by
  obtain⟨x0,x1,x2,x3,x4⟩:=h.cells;have HM:=Lib.hid h;clear h;go_enter Tryz.func172,Tryz.ntmps172
  go_wp2_with (first
    | (go_at_call 171;with_reducible refine aV (BM.refl _ _) (dR B b _ _ _ _ _ _ HM.out ht) fun w1 q1 HM1 x0 x1 x2 x3 x4=>?_))
  all_goals go_returns
  all_goals first
    | exact ay HM1.out q1 rfl rfl
    | exact ay (HM1.out.setFresh _) (BM.setCell q1 HM1.out _) rfl rfl
theorem BC (h:aB w B b ((35,p)::r) f at_) (hl:r.length≤99990) (hc10:((c.toNat:Int)==10)=false) :
    bU 172 14 c w B b (.tuple #[]) ((35,p)::r) f at_:=by
  obtain⟨x0,x1,x2,x3,x4⟩:=h.cells;have HM:=Lib.hid h;clear h;go_enter Tryz.func172,Tryz.ntmps172;go_wp2_with fail;all_goals go_returns
  all_goals first
    | exact ay HM.out (BM.refl _ _) rfl rfl
    | exact ay (HM.out.setFresh _) (BM.setCell (BM.refl _ _) HM.out _) rfl rfl
theorem xV (h:aB w B b ((66,p)::r) f at_) (hl:r.length≤99990) (ht:r≠[]) :
    bU 172 6 96 w B b (.tuple #[]) r f at_:=by
  obtain⟨x0,x1,x2,x3,x4⟩:=h.cells;have HM:=Lib.hid h;clear h;go_enter Tryz.func172,Tryz.ntmps172
  go_wp2_with (first
    | (go_at_call 171;with_reducible refine aV (BM.refl _ _) (dR B b _ _ _ _ _ _ HM.out ht) fun w1 q1 HM1 x0 x1 x2 x3 x4=>?_))
  all_goals go_returns
  all_goals first
    | exact ay HM1.out q1 rfl rfl
    | exact ay (HM1.out.setFresh _) (BM.setCell q1 HM1.out _) rfl rfl
theorem xW (h:aB w B b ((66,p)::r) f at_) (hl:r.length≤99990) :
    bU 172 6 92 w B b (.tuple #[]) ((88,at_)::(66,p)::r) f at_:=by
  obtain⟨x0,x1,x2,x3,x4⟩:=h.cells;have HM:=Lib.hid h;clear h;go_enter Tryz.func172,Tryz.ntmps172
  go_wp2_with (first
    | (go_at_call 203;with_reducible refine aV (BM.refl _ _) (eP B b _ _ _ 88 13 _ rfl HM.out (by simp) (by simp at *;omega)) fun w1 q1 HM1 x0 x1 x2 x3 x4=>?_))
  all_goals go_returns
  all_goals first
    | exact ay HM1.out q1 rfl rfl
    | exact ay (HM1.out.setFresh _) (BM.setCell q1 HM1.out _) rfl rfl
theorem BB (h:aB w B b ((66,p)::r) f at_) (hl:r.length≤99990) (hc96:((c.toNat:Int)==96)=false) (hc92:((c.toNat:Int)==92)=false) :
    bU 172 6 c w B b (.tuple #[]) ((66,p)::r) f at_:=by
  obtain⟨x0,x1,x2,x3,x4⟩:=h.cells;have HM:=Lib.hid h;clear h;go_enter Tryz.func172,Tryz.ntmps172;go_wp2_with fail;all_goals go_returns
  all_goals first
    | exact ay HM.out (BM.refl _ _) rfl rfl
    | exact ay (HM.out.setFresh _) (BM.setCell (BM.refl _ _) HM.out _) rfl rfl
theorem mH (r:bp) (c:UInt8) (p m:Int) (b:UInt8) (f:Bool) (at_:Int) (w:World) (hm:m=aH c) (h:aB w B b0 ((c,p)::r) f at_) (hl:r.length≤99990) (ht:c≠84→r≠[]) (hc:c=84∨c=67∨c=80∨c=65∨c=82∨c=68∨c=73∨c=86∨c=88∨c=83∨c=35∨c=66) :
    bU 172 m b w B b0 (.tuple #[]) (aa ((c,p)::r) f c b at_).1 (aa ((c,p)::r) f c b at_).2 at_:=by
  rcases hc with rfl|rfl|rfl|rfl|rfl|rfl|rfl|rfl|rfl|rfl|rfl|rfl
  ·obtain rfl:m=0:=hm;exact EX B b0 r p b f at_ w h hl
  ·obtain rfl:m=1:=hm;exact E7 B b0 r p b f at_ w h hl (ht (by decide))
  ·obtain rfl:m=2:=hm;exact EZ B b0 r p b f at_ w h hl (ht (by decide))
  ·obtain rfl:m=9:=hm;exact Fa B b0 r p b f at_ w h hl (ht (by decide))
  ·obtain rfl:m=10:=hm;exact EY B b0 r p b f at_ w h hl (ht (by decide))
  ·obtain rfl:m=5:=hm;exact E6 B b0 r p b f at_ w h hl (ht (by decide))
  ·obtain rfl:m=8:=hm;exact E5 B b0 r p b f at_ w h hl (ht (by decide))
  ·obtain rfl:m=7:=hm;exact EW B b0 r p b f at_ w h hl (ht (by decide))
  ·obtain rfl:m=13:=hm;have ht:=ht (by decide);rcases Decidable.em (b=10) with rfl|hb10
   ·have e:aa ((88,p)::r) f 88 10 at_=(r,f):=by simp[aa]
    rw[e]
    cases f
    ·exact vL B b0 r p false at_ w h hl ht
    ·exact vK B b0 r p true at_ w h hl ht
   have n10:b.toNat≠10:=nn hb10;have e:aa ((88,p)::r) f 88 b at_=(r,false):=by simp[aa,n10]
   rw[e]
   cases f
   ·exact xT B b0 r p b false at_ w h hl ht (bf b 10 hb10)
   ·exact xS B b0 r p b true at_ w h hl ht (bf b 10 hb10)
  ·obtain rfl:m=4:=hm;have ht:=ht (by decide);rcases Decidable.em (b=39) with rfl|hb39
   ·have e:aa ((83,p)::r) f 83 39 at_=(r,f):=by simp[aa]
    rw[e];exact xU B b0 r p f at_ w h hl ht
   have n39:b.toNat≠39:=nn hb39;have e:aa ((83,p)::r) f 83 b at_=(((83,p)::r),f):=by simp[aa,n39]
   rw[e];exact BA B b0 r p b f at_ w h hl (bf b 39 hb39)
  ·obtain rfl:m=14:=hm;have ht:=ht (by decide);rcases Decidable.em (b=10) with rfl|hb10
   ·have e:aa ((35,p)::r) f 35 10 at_=(r,true):=by simp[aa]
    rw[e];exact xY B b0 r p f at_ w h hl ht
   have n10:b.toNat≠10:=nn hb10;have e:aa ((35,p)::r) f 35 b at_=(((35,p)::r),f):=by simp[aa,n10]
   rw[e];exact BC B b0 r p b f at_ w h hl (bf b 10 hb10)
  ·obtain rfl:m=6:=hm;have ht:=ht (by decide);rcases Decidable.em (b=96) with rfl|hb96
   ·have e:aa ((66,p)::r) f 66 96 at_=(r,f):=by simp[aa]
    rw[e];exact xV B b0 r p f at_ w h hl ht
   have n96:b.toNat≠96:=nn hb96;rcases Decidable.em (b=92) with rfl|hb92
   ·have e:aa ((66,p)::r) f 66 92 at_=(((88,at_)::(66,p)::r),f):=by simp[aa]
    rw[e];exact xW B b0 r p f at_ w h hl
   have n92:b.toNat≠92:=nn hb92;have e:aa ((66,p)::r) f 66 b at_=(((66,p)::r),f):=by simp[aa,n96,n92]
   rw[e];exact BB B b0 r p b f at_ w h hl (bf b 96 hb96) (bf b 92 hb92)
theorem aB.drewN {w:World} {B b:Nat} {st:bp} {f:Bool} {at_:Int} (h:aB w B b st f at_) (n:Nat):aB (w.drewN n) B b st f at_:=h
theorem qB (p q:Int) (c d:UInt8) (m:Int) (w:World) (hm:m=aH d) (h:aB w B b ((c,p)::(d,q)::st) f at_) :
    Gw 201 #[.pointer (some ⟨b,0,none⟩)] w (.int .i64 m):=by
  subst hm;exact CL B b st f at_ p q c d w h
theorem FA (h:aB w B b ((76,p)::(d,q)::r) f at_) (hl:r.length≤99980) :
    fT 169 40 w B b (.bool true) ((79,p)::(d,q)::r) true at_:=by
  obtain⟨x0,x1,x2,x3,x4⟩:=h.cells;have HM:=Lib.hid h;clear h;go_enter Tryz.func169,Tryz.ntmps169
  go_wp2_with (first
    | (go_at_call 170;with_reducible refine aV (BM.refl _ _) (ff B b _ _ _ _ _ 79 3 _ rfl HM.out) fun w1 q1 HM1 x0 x1 x2 x3 x4=>?_))
  all_goals go_returns
  all_goals first
    | exact ay HM1.out q1 rfl rfl
    | exact ay (HM1.out.setFresh _) (BM.setCell q1 HM1.out _) rfl rfl
theorem FC (h:aB w B b ((76,p)::(d,q)::r) f at_) (hl:r.length≤99980) :
    fT 169 36 w B b (.bool true) ((d,q)::r) f at_:=by
  obtain⟨x0,x1,x2,x3,x4⟩:=h.cells;have HM:=Lib.hid h;clear h;go_enter Tryz.func169,Tryz.ntmps169
  go_wp2_with (first
    | (go_at_call 171;refine aV (BM.refl _ _) (dR B b _ _ _ _ _ _ HM.out (by simp)) fun w1 q1 HM1 x0 x1 x2 x3 x4=>?_))
  all_goals go_returns
  all_goals first
    | exact ay HM1.out q1 rfl rfl
    | exact ay (HM1.out.setFresh _) (BM.setCell q1 HM1.out _) rfl rfl
theorem Gr (h:aB w B b ((76,p)::(d,q)::r) f at_) (hl:r.length≤99980) (hc40:((c.toNat:Int)==40)=false) (hc123:((c.toNat:Int)==123)=false) (hc36:((c.toNat:Int)==36)=false) :
    fT 169 c w B b (.bool false) ((d,q)::r) f at_:=by
  obtain⟨x0,x1,x2,x3,x4⟩:=h.cells;have HM:=Lib.hid h;clear h;go_enter Tryz.func169,Tryz.ntmps169
  go_wp2_with (first
    | (go_at_call 171;refine aV (BM.refl _ _) (dR B b _ _ _ _ _ _ HM.out (by simp)) fun w1 q1 HM1 x0 x1 x2 x3 x4=>?_))
  all_goals go_returns
  all_goals first
    | exact ay HM1.out q1 rfl rfl
    | exact ay (HM1.out.setFresh _) (BM.setCell q1 HM1.out _) rfl rfl
theorem zE (h:aB w B b ((76,p)::(d,q)::r) f at_) (hl:r.length≤99980) (hmd:m=aH d) (hm5:m=5) :
    fT 169 123 w B b (.bool true) ((73,p)::(d,q)::r) f at_:=by
  obtain⟨x0,x1,x2,x3,x4⟩:=h.cells;have HM:=Lib.hid h;clear h;subst hm5;have Hmd:=Lib.hid hmd;clear hmd;go_enter Tryz.func169,Tryz.ntmps169
  go_wp2_with (first
    | (go_at_call 201;refine(qB B b _ _ _ _ _ _ _ _ _ Hmd.out HM.out).mono ?_;rintro e w0 ⟨rfl,nq,rfl⟩)
    | (go_at_call 170;with_reducible refine aV (BM.drewN (BM.refl B w) nq) (ff B b _ _ _ _ _ 73 8 _ rfl (HM.out.drewN nq)) fun w1 q1 HM1 x0 x1 x2 x3 x4=>?_))
  all_goals go_returns
  all_goals first
    | exact ay HM1.out q1 rfl rfl
    | exact ay (HM1.out.setFresh _) (BM.setCell q1 HM1.out _) rfl rfl
theorem zD (h:aB w B b ((76,p)::(d,q)::r) f at_) (hl:r.length≤99980) (hmd:m=aH d) (hm5:m=8) :
    fT 169 123 w B b (.bool true) ((73,p)::(d,q)::r) f at_:=by
  obtain⟨x0,x1,x2,x3,x4⟩:=h.cells;have HM:=Lib.hid h;clear h;subst hm5;have Hmd:=Lib.hid hmd;clear hmd;go_enter Tryz.func169,Tryz.ntmps169
  go_wp2_with (first
    | (go_at_call 201;refine(qB B b _ _ _ _ _ _ _ _ _ Hmd.out HM.out).mono ?_;rintro e w0 ⟨rfl,nq,rfl⟩)
    | (go_at_call 170;with_reducible refine aV (BM.drewN (BM.refl B w) nq) (ff B b _ _ _ _ _ 73 8 _ rfl (HM.out.drewN nq)) fun w1 q1 HM1 x0 x1 x2 x3 x4=>?_))
  all_goals go_returns
  all_goals first
    | exact ay HM1.out q1 rfl rfl
    | exact ay (HM1.out.setFresh _) (BM.setCell q1 HM1.out _) rfl rfl
theorem zC (h:aB w B b ((76,p)::(d,q)::r) f at_) (hl:r.length≤99980) (hmd:m=aH d) (hm5:(m==5)=false) (hm8:(m==8)=false) :
    fT 169 123 w B b (.bool true) ((86,p)::(d,q)::r) f at_:=by
  obtain⟨x0,x1,x2,x3,x4⟩:=h.cells;have HM:=Lib.hid h;clear h;have Hmd:=Lib.hid hmd;clear hmd;go_enter Tryz.func169,Tryz.ntmps169
  go_wp2_with (first
    | (go_at_call 201;refine(qB B b _ _ _ _ _ _ _ _ _ Hmd.out HM.out).mono ?_;rintro e w0 ⟨rfl,nq,rfl⟩)
    | (go_at_call 170;with_reducible refine aV (BM.drewN (BM.refl B w) nq) (ff B b _ _ _ _ _ 86 7 _ rfl (HM.out.drewN nq)) fun w1 q1 HM1 x0 x1 x2 x3 x4=>?_))
  all_goals go_returns
  all_goals first
    | exact ay HM1.out q1 rfl rfl
    | exact ay (HM1.out.setFresh _) (BM.setCell q1 HM1.out _) rfl rfl
end Go.Proofs.YtfagdpfgifgnoaaGreatDoor
