/- The program's machine (modes.Machine) in memory: its frames hold the modes of a stack of letters; open, shut, become, below, New. -/
import Derived.Test.YtcagfamdoaoimaaGreatDoorMem
import Derived.Test.YtcagfamdoaoimaaGreatDoorPl6
import Derived.Test.YtcagfamdoaoimaaGreatDoorCls
set_option linter.unusedVariables false
set_option linter.unusedSimpArgs false
set_option maxRecDepth 100000
set_option maxHeartbeats 8000000
namespace Go.Proofs.YtcagfamdoaoimaaGreatDoor
open Go.RowKit
variable {av:Array Value} {f':Bool} {Q:Ending→World→Prop} {fn:FuncId} {T:List TypeId} {i:Nat} {st':ff} {v:Value} {w' a w0:World} (B b:Nat) (r st:ff) (p q:Int) (x d:UInt8) (m:Int) (c:UInt8) (f:Bool) (at_:Int) (b0:Nat) (w:World)
def fU (st:ff):List Value:=st.reverse.flatMap fun x=>[.int .i64 (eG x.1),.int .i64 x.2]
theorem gD (p:Int) (st:ff):fU ((c,p)::st)=fU st++[.int .i64 (eG c),.int .i64 p]:=by simp[fU]
theorem ix:(fU st).length=st.length*2:=by
  induction st with
  | nil=>rfl
  | cons x st ih=>obtain⟨c,p⟩:=x;rw[gD];simp[ih];omega
def eH (w:World) (B b:Nat) (st:ff) (f:Bool) (at_:Int):Prop:=
  B≤b∧∃g cap,Bk w b 172 #[.slice (some ⟨g,0,none⟩) st.length cap,.bool f,.int .i64 at_]∧w.ownsRow B 170 2 (.slice (some ⟨g,0,none⟩) st.length cap) st.length (fU st)
theorem eH.below {w:World} {B b:Nat} {st:ff} {f:Bool} {at_:Int} (h:eH w B b st f at_) (hb:Below w.heap.size w w'):eH w' B b st f at_:=by
  obtain⟨h1,g,cap,h2,h3⟩:=h;exact⟨h1,g,cap,h2.below hb h2.lt,dS h3 hb⟩
structure BM (B:Nat) (w w':World):Prop where
  b:Below B w w'
  t:KT [172,170] w w'
theorem BM.refl:BM B w w:=⟨aD _ _,KT.refl _ _⟩
theorem BM.trans {B:Nat} {b c:World} (h:BM B a b) (h':BM B b c):BM B a c:=⟨h.b.trans h'.b,h.t.trans h'.t⟩
theorem BM.drewN {B:Nat} {b:World} (h:BM B a b) (n:Nat):BM B a (b.drewN n):=⟨dM h.b n,h.t.drewN n⟩
theorem BM.setCell {B b:Nat} {w:World} {st:ff} {f:Bool} {at_:Int} (h:BM B a w) (hm:eH w B b st f at_) (v:Value):BM B a (w.setCell ⟨b,i,none⟩ v):=by
  obtain⟨h1,g,cap,h2,h3⟩:=hm;exact⟨h.b.setCell h1 v,h.t.setCell h2 (by simp) i v⟩
theorem eH.kt {w:World} {B b:Nat} {st:ff} {f:Bool} {at_:Int} (h:eH w B b st f at_) (hk:KT T w w') (h1:172∉T) (h2:170∉T):eH w' B b st f at_:=by
  obtain⟨m1,g,cap,m2,m3⟩:=h;exact⟨m1,g,cap,m2.kt hk h1,AG m3 hk h2⟩
def Mo (w:World) (B b:Nat) (v:Value) (st:ff) (f:Bool) (at_:Int) (e:Ending) (w':World):Prop:=e=.returned v∧eH w' B b st f at_∧BM B w w'
abbrev lP (fn:FuncId) (c:UInt8) (w:World) (B b:Nat) (v:Value) (st:ff) (f:Bool) (at_:Int):Prop:=Calls Tryz.prog fn #[.pointer (some ⟨b,0,none⟩),.int .u8 (c.toNat:Int)] w (Mo w B b v st f at_)
abbrev f7 (fn:FuncId) (m:Int) (c:UInt8) (w:World) (B b:Nat) (v:Value) (st:ff) (f:Bool) (at_:Int):Prop:=Calls Tryz.prog fn #[.pointer (some ⟨b,0,none⟩),.int .i64 m,.int .u8 (c.toNat:Int)] w (Mo w B b v st f at_)
theorem ek {w:World} {B b:Nat} {st:ff} {f:Bool} {at_:Int} (h:eH w' B b st' f' at_) (hb:BM B w w') (hs:st'=st) (hf:f'=f):Mo w B b v st f at_ (.returned v) w':=by
  subst hs hf;exact⟨rfl,h,hb⟩
theorem eH.setFresh {w:World} {B b:Nat} {st:ff} {f:Bool} {at_:Int} (h:eH w B b st f at_) (f':Bool):eH (w.setCell ⟨b,1,none⟩ (.bool f')) B b st f' at_:=by
  obtain⟨h1,g,cap,h2,h3⟩:=h;refine⟨h1,g,cap,by simpa using h2.set 1 (.bool f'),fg h3 ?_ _⟩;exact eO h3 h2 (by decide)
theorem eH.setAt {w:World} {B b:Nat} {st:ff} {f:Bool} {at_:Int} (h:eH w B b st f at_) (k:Int):eH (w.setCell ⟨b,2,none⟩ (.int .i64 k)) B b st f k:=by
  obtain⟨h1,g,cap,h2,h3⟩:=h;refine⟨h1,g,cap,by simpa using h2.set 2 (.int .i64 k),fg h3 ?_ _⟩;exact eO h3 h2 (by decide)
theorem Ia (p:Int) (c d:UInt8) (w:World) (h:eH w B b ((c,p)::st) f at_) :
    Calls Tryz.prog 181 #[.pointer (some ⟨b,0,none⟩),.int .i64 (eG d)] w (Mo w B b (.tuple #[]) ((d,p)::st) f at_):=by
  obtain⟨h1,g,cap,h2,h3⟩:=h;have hle:=ic h3;have hcap:=hle.2.2.1;have hc1:st.length+1≤cap:=hle.2.1;unfold maxLen at hcap;have c0:w.cell? ⟨b,0,none⟩=some (.slice (some ⟨g,0,none⟩) (st.length+1) cap):=by rw[h2.cell];rfl
  have c1:w.cell? ⟨g,st.length*2,none⟩=some (.int .i64 (eG c)):=eE h3 _ _ (by rw[gD,aY (by rw[ix];omega)];simp[ix]);have f1:=iq h3 (st.length*2);have H:=aa (ac h1 (ac h2 h3));clear h1 h2 h3 hle;generalize hn:st.length=n at *;have HN:=aa hn;clear hn;go_enter Tryz.func181,Tryz.ntmps181;go_wp2;go_region;all_goals go_end0
  all_goals (
    obtain⟨h1,h2,h3⟩:=H.out;have hn:=HN.out;subst hn;refine⟨rfl,⟨h1,g,cap,?_,?_⟩,?_⟩
    ·exact(h2.far (show b≠g from fun e=>eO h3 h2 (by decide) (by rw[e];rfl)) _).drew
    ·refine fu ?_
     have:=qH h3 (st.length*2) (.int .i64 (eG d))
     have e:(fU ((c,p)::st)).set (st.length*2) (.int .i64 (eG d))=fU ((d,p)::st):=by
       rw[gD,gD,List.set_append_right _ _ (by rw[ix];omega)];simp[ix]
     rw[e] at this;exact this
    ·exact⟨((aD _ _).setCell (ic h3).2.2.2.1 _).drew,((KT.refl _ _).setCell (mO h3) (by simp) _ _).drew⟩)
theorem jb (p:Int) (c:UInt8) (w:World) (h:eH w B b ((c,p)::st) f at_) (hne:st≠[]) :
    Calls Tryz.prog 182 #[.pointer (some ⟨b,0,none⟩)] w (Mo w B b (.tuple #[]) st f at_):=by
  obtain⟨h1,g,cap,h2,h3⟩:=h;obtain⟨x,r,rfl⟩:=List.exists_cons_of_ne_nil hne;have hle:=ic h3;have hcap:=hle.2.2.1;have hc1:r.length+2≤cap:=hle.2.1;unfold maxLen at hcap;have c0:w.cell? ⟨b,0,none⟩=some (.slice (some ⟨g,0,none⟩) (r.length+2) cap):=by rw[h2.cell];rfl
  have f1:=h2.frozen 0;have H:=aa (ac h1 (ac h2 h3));clear h1 h2 h3 hle hne;generalize hn:r.length=n at *;have HN:=aa hn;clear hn;go_enter Tryz.func182,Tryz.ntmps182;go_wp2;go_region;all_goals go_wp2
  all_goals go_end0
  all_goals (
    obtain⟨h1,h2,h3⟩:=H.out;have hn:=HN.out;subst hn;refine⟨rfl,⟨h1,g,cap,?_,?_⟩,?_⟩
    ·have:=(h2.set 0 (.slice (some ⟨g,0,none⟩) (r.length+1) cap)).drew
     simpa using this
    ·refine fu (fg ?_ ?_ _)
     ·rw[gD] at h3;exact ownsRow_pop (ix _) h3
     ·have:=eO h3 h2 (by decide)
      simpa [Value.ownBlock] using this
    ·exact⟨((aD _ _).setCell h1 _).drew,((KT.refl _ _).setCell h2 (by simp) _ _).drew⟩)
theorem Ki (p q:Int) (c d:UInt8) (w:World) (h:eH w B b ((c,p)::(d,q)::st) f at_) :
    Nv 212 #[.pointer (some ⟨b,0,none⟩)] w (.int .i64 (eG d)):=by
  obtain⟨h1,g,cap,h2,h3⟩:=h;have hle:=ic h3;have hcap:=hle.2.2.1;have hc1:st.length+2≤cap:=hle.2.1;unfold maxLen at hcap;have c0:w.cell? ⟨b,0,none⟩=some (.slice (some ⟨g,0,none⟩) (st.length+2) cap):=by rw[h2.cell];rfl
  have c1:w.cell? ⟨g,st.length*2,none⟩=some (.int .i64 (eG d)):=eE h3 _ _ (by
    rw[gD,gD,bI,aY (by rw[ix];omega)];simp[ix])
  clear h1 h2 h3 hle;generalize st.length=n at *;go_enter Tryz.func212,Tryz.ntmps212;go_wp2;go_quiet (fail);go_wp2;go_ret;exact⟨rfl,_,rfl⟩
theorem Tryz.infoFrame:(Tryz.prog.info? 170).map (fun i=>(i.zero,i.size,i.bytes))=some (some (.agg #[.int .i64 0,.int .i64 0]),2,16):=by kernel_rfl
theorem Ld (x y:Value) (t:TypeId):Rd (w.alloc (.cells #[x,y] t)) (w.heap.size+1) 2 (.slice (some ⟨w.heap.size,0,none⟩) 1 1) 1 [x,y]:=fT w [x,y] t 2 1 rfl (by omega)
theorem Lq (d:UInt8) (w:World) (h:eH w B b st f at_) (hne:st≠[]) (hl:st.length≤1000000) :
    Calls Tryz.prog 214 #[.pointer (some ⟨b,0,none⟩),.int .i64 (eG d)] w (Mo w B b (.tuple #[]) ((d,at_)::st) f at_):=by
  obtain⟨h1,g,cap,h2,h3⟩:=h;have c0:w.cell? ⟨b,0,none⟩=some (.slice (some ⟨g,0,none⟩) st.length cap):=by rw[h2.cell];rfl
  have c2:w.cell? ⟨b,2,none⟩=some (.int .i64 at_):=by rw[h2.cell];rfl
  have f0:=h2.frozen 0;have hbl:=h2.lt;have hle:=ic h3;have hgb:¬g=b:=fun e=>eO h3 h2 (by decide) (by rw[e];rfl)
  have hbg:¬b=g:=fun e=>hgb e.symm
  have hB:B≤w.heap.size:=by omega
  have H:=aa (ac h1 (ac h2 (ac h3 hle)));clear h1 h2 h3 hle hne;generalize hn:st.length=n at *;have HN:=aa hn;clear hn;obtain⟨i0,hi,hz0,hz1,hz2⟩:=cz Tryz.infoFrame;go_enter Tryz.func214,Tryz.ntmps214;go_wp2
  go_region_law (first
    | (refine dV rfl (.tmp 8) (.tmp 15) 151 rfl B 170 i0 _ 2 16 Tryz.underlying151 hi hz0 hz1 hz2 rfl (by decide) (.slice (some ⟨g,0,none⟩) n cap) n (fU st) (by simp[Act.eval]) (H.out.2.2.1.alloc _) (.slice (some ⟨w.heap.size,0,none⟩) 1 1) 1 (w.heap.size+1) [.int .i64 (eG d),.int .i64 at_] (by simp[Act.eval]) (Rd.drew (Ld w _ _ _)) (by intro u hu;simp at hu;rcases hu with rfl|rfl<;>rfl) (by unfold maxLen;omega) (by omega) (by simp;omega) ?_;intro v1 w1 hown1 hg1 hv1;obtain⟨g',cap',rfl⟩:=iD hown1;have kk:=(H.out.2.1.alloc (.cells #[.int .i64 (eG d),.int .i64 at_] 170)).drew.grown (row:=some g) hg1 (by simpa using hbg);have y0:=kk.cell 0;simp only[aO,aM] at y0;have y1:=kk.frozen 0;have H1:=aa (ac hown1 (ac hg1 kk));clear hown1 hg1 hv1 kk))
  all_goals go_wp2
  all_goals go_end0
  all_goals (
    obtain⟨h1,h2,h3,hle⟩:=H.out;obtain⟨hown1,hg1,kk⟩:=H1.out;have hn:=HN.out;subst hn;refine⟨rfl,⟨h1,g',cap',?_,?_⟩,?_⟩
    ·simpa using kk.set 0 (.slice (some ⟨g',0,none⟩) (st.length+1) cap')
    ·rw[gD];refine fg hown1 ?_ _
     have:=eO hown1 kk (by decide)
     exact this
    ·exact⟨Below.setCell ((aW (aD _ _) hB _).drew.grown (row:=some g) hg1 (by simp;omega) (by intro k hk;injection hk with hk;omega)) h1 _,(((KT.refl _ _).alloc _).drew.grown (row:=some g) hg1 (by intro k hk;injection hk with hk;subst hk;obtain⟨cs,t,fr,q1,q2⟩:=lh (fu (h3.alloc _)) g rfl;exact⟨cs,t,fr,q1,by rw[q2];simp⟩)).setCell kk (by simp) _ _⟩)
theorem F2:Calls Tryz.prog 144 #[] w fun e w'=>∃b,e=.returned (.pointer (some ⟨b,0,none⟩))∧eH w' w.heap.size b [(84,0)] true 0∧Below w.heap.size w w':=by
  go_enter Tryz.func144,Tryz.ntmps144;go_wp2;go_returns;refine⟨w.heap.size+1,rfl,⟨bM _,w.heap.size,1,?_,?_⟩,by go_grown⟩
  ·simpa using Bk.new (w.alloc (.cells #[.int .i64 0,.int .i64 0] 170)) 172 #[.slice (some ⟨w.heap.size,0,none⟩) 1 1,.bool true,.int .i64 0]
  ·refine World.ownsRow.alloc ?_ _;exact⟨rfl,.inr ⟨w.heap.size,1,_,rfl,au _,Bk.new _ _ _,au _,by unfold maxLen;omega,rfl,rfl⟩⟩
theorem eH.cells {w:World} {B b:Nat} {st:ff} {f:Bool} {at_:Int} (h:eH w B b st f at_):w.cell? ⟨b,1,none⟩=some (.bool f)∧w.cell? ⟨b,2,none⟩=some (.int .i64 at_)∧w.frozen? ⟨b,1,none⟩=false∧w.frozen? ⟨b,2,none⟩=false∧b<w.heap.size:=by
  obtain⟨_,g,cap,h2,_⟩:=h;exact⟨by rw[h2.cell];rfl,by rw[h2.cell];rfl,h2.frozen _,h2.frozen _,h2.lt⟩
theorem fj {w:World} {B b:Nat} {st:ff} {f:Bool} {at_:Int} (q:BM B w0 w) (c:Calls Tryz.prog fn av w (Mo w B b v st f at_)) (k:∀w',BM B w0 w'→Hid (eH w' B b st f at_)→w'.cell? ⟨b,1,none⟩=some (.bool f)→w'.cell? ⟨b,2,none⟩=some (.int .i64 at_)→w'.frozen? ⟨b,1,none⟩=false→w'.frozen? ⟨b,2,none⟩=false→b<w'.heap.size→Q (.returned v) w'):Calls Tryz.prog fn av w Q:=
  c.mono (by
    rintro e w' ⟨rfl,hm,hb⟩;obtain⟨x0,x1,x2,x3,x4⟩:=hm.cells;exact k w' (q.trans hb) (aa hm) x0 x1 x2 x3 x4)
theorem jI (d:UInt8) (m:Int) (w:World) (hm:m=eG d) (h:eH w B b st f at_) (hne:st≠[]) (hl:st.length≤100000) :
    Calls Tryz.prog 214 #[.pointer (some ⟨b,0,none⟩),.int .i64 m] w (Mo w B b (.tuple #[]) ((d,at_)::st) f at_):=by
  subst hm;exact Lq B b st f at_ d w h hne (by omega)
theorem kz (p:Int) (c d:UInt8) (m:Int) (w:World) (hm:m=eG d) (h:eH w B b ((c,p)::st) f at_) :
    Calls Tryz.prog 181 #[.pointer (some ⟨b,0,none⟩),.int .i64 m] w (Mo w B b (.tuple #[]) ((d,p)::st) f at_):=by
  subst hm;exact Ia B b st f at_ p c d w h
theorem Gm (h:eH w B b st f at_) (hne:st≠[]) (hl:st.length≤100000) :
    lP 243 92 w B b (.bool true) ((88,at_)::st) f at_:=by
  obtain⟨x0,x1,x2,x3,x4⟩:=h.cells;have HM:=aa h;clear h;go_enter Tryz.func243,Tryz.ntmps243
  go_wp2_with (first
    | (go_at_call 214;with_reducible refine fj (BM.refl _ _) (jI B b _ _ _ 88 13 _ rfl HM.out hne hl) fun w1 q1 HM1 x0 x1 x2 x3 x4=>?_))
  go_ret;exact ek HM1.out q1 rfl rfl
theorem Gn (h:eH w B b st f at_) (hne:st≠[]) (hl:st.length≤100000) :
    lP 243 36 w B b (.bool true) ((76,at_)::st) f at_:=by
  obtain⟨x0,x1,x2,x3,x4⟩:=h.cells;have HM:=aa h;clear h;go_enter Tryz.func243,Tryz.ntmps243
  go_wp2_with (first
    | (go_at_call 214;with_reducible refine fj (BM.refl _ _) (jI B b _ _ _ 76 12 _ rfl HM.out hne hl) fun w1 q1 HM1 x0 x1 x2 x3 x4=>?_))
  go_ret;exact ek HM1.out q1 rfl rfl
theorem Gl (h:eH w B b st f at_) (hne:st≠[]) (hl:st.length≤100000) :
    lP 243 96 w B b (.bool true) ((66,at_)::st) f at_:=by
  obtain⟨x0,x1,x2,x3,x4⟩:=h.cells;have HM:=aa h;clear h;go_enter Tryz.func243,Tryz.ntmps243
  go_wp2_with (first
    | (go_at_call 214;with_reducible refine fj (BM.refl _ _) (jI B b _ _ _ 66 6 _ rfl HM.out hne hl) fun w1 q1 HM1 x0 x1 x2 x3 x4=>?_))
  go_ret;exact ek HM1.out q1 rfl rfl
theorem iS (h:eH w B b st f at_) (h92:((c.toNat:Int)==92)=false) (h36:((c.toNat:Int)==36)=false) (h96:((c.toNat:Int)==96)=false) :
    lP 243 c w B b (.bool false) st f at_:=by
  obtain⟨x0,x1,x2,x3,x4⟩:=h.cells;have HM:=aa h;clear h;go_enter Tryz.func243,Tryz.ntmps243;go_wp2;go_ret;exact ek HM.out (BM.refl _ _) rfl rfl
theorem oT (c d:UInt8) (w:World) (h:eH w B b st f at_) (hne:st≠[]) (hl:st.length≤100000) (hd:gk c=[d]) :
    lP 243 c w B b (.bool true) ((d,at_)::st) f at_:=by
  have hc:(c=92∧d=88)∨(c=36∧d=76)∨(c=96∧d=66):=by
    have:=fh (fun c=>(c==92&&gk c==[88])||(c==36&&gk c==[76])||(c==96&&gk c==[66])||gk c==[]) (by decide +kernel) c
    simp[hd] at this;simpa [or_assoc] using this
  rcases hc with ⟨rfl,rfl⟩|⟨rfl,rfl⟩|⟨rfl,rfl⟩
  ·exact Gm B b st f at_ w h hne hl
  ·exact Gn B b st f at_ w h hne hl
  ·exact Gl B b st f at_ w h hne hl
theorem si (x c d:UInt8) (f:Bool) (at_:Int) (w:World) (h:eH w B b ((x,p)::r) f at_) (hl:r.length≤99990) (hd:gk c=[d]) :
    f7 215 m c w B b (.tuple #[]) ((d,at_)::(x,p)::r) f at_:=by
  obtain⟨x0,x1,x2,x3,x4⟩:=h.cells;have HM:=aa h;clear h;go_enter Tryz.func215,Tryz.ntmps215
  go_wp2_with (first
    | (go_at_call 243;refine fj (BM.refl _ _) (oT B b _ _ _ _ _ _ HM.out (by simp) (by simp;omega) hd) fun w1 q1 HM1 x0 x1 x2 x3 x4=>?_))
  all_goals go_returns
  all_goals exact ek HM1.out q1 rfl rfl
theorem KR (x:UInt8) (f:Bool) (at_:Int) (w:World) (h:eH w B b ((x,p)::r) f at_) (hl:r.length≤99990) :
    f7 215 m 40 w B b (.tuple #[]) ((82,at_)::(x,p)::r) f at_:=by
  obtain⟨x0,x1,x2,x3,x4⟩:=h.cells;have HM:=aa h;clear h;go_enter Tryz.func215,Tryz.ntmps215
  go_wp2_with (first
    | (go_at_call 243;refine fj (BM.refl _ _) (iS B b _ 40 _ _ _ HM.out (by decide) (by decide) (by decide)) fun w1 q1 HM1 x0 x1 x2 x3 x4=>?_)
    | (go_at_call 214;with_reducible refine fj q1 (jI B b _ _ _ 82 10 _ rfl HM1.out (by simp) (by simp at *;omega)) fun w2 q2 HM2 x0 x1 x2 x3 x4=>?_))
  all_goals go_returns
  all_goals exact ek HM2.out q2 rfl rfl
theorem If (h:eH w B b ((82,p)::r) f at_) (hl:r.length≤99990) (ht:r≠[]) :
    f7 215 10 41 w B b (.tuple #[]) r f at_:=by
  obtain⟨x0,x1,x2,x3,x4⟩:=h.cells;have HM:=aa h;clear h;go_enter Tryz.func215,Tryz.ntmps215
  go_wp2_with (first
    | (go_at_call 243;refine fj (BM.refl _ _) (iS B b _ 41 _ _ _ HM.out (by decide) (by decide) (by decide)) fun w1 q1 HM1 x0 x1 x2 x3 x4=>?_)
    | (go_at_call 182;with_reducible refine fj q1 (jb B b _ _ _ _ _ _ HM1.out ht) fun w2 q2 HM2 x0 x1 x2 x3 x4=>?_))
  all_goals go_returns
  all_goals exact ek HM2.out q2 rfl rfl
theorem Ig (h:eH w B b ((65,p)::r) f at_) (hl:r.length≤99990) :
    f7 215 9 41 w B b (.tuple #[]) ((69,p)::r) f at_:=by
  obtain⟨x0,x1,x2,x3,x4⟩:=h.cells;have HM:=aa h;clear h;go_enter Tryz.func215,Tryz.ntmps215
  go_wp2_with (first
    | (go_at_call 243;refine fj (BM.refl _ _) (iS B b _ 41 _ _ _ HM.out (by decide) (by decide) (by decide)) fun w1 q1 HM1 x0 x1 x2 x3 x4=>?_)
    | (go_at_call 181;with_reducible refine fj q1 (kz B b _ _ _ _ _ 69 11 _ rfl HM1.out) fun w2 q2 HM2 x0 x1 x2 x3 x4=>?_))
  all_goals go_returns
  all_goals exact ek HM2.out q2 rfl rfl
theorem KQ (x c:UInt8) (f:Bool) (at_:Int) (w:World) (h:eH w B b ((x,p)::r) f at_) (hl:r.length≤99990) (h92:((c.toNat:Int)==92)=false) (h36:((c.toNat:Int)==36)=false) (h96:((c.toNat:Int)==96)=false) (hc40:((c.toNat:Int)==40)=false) (hc41:((c.toNat:Int)==41)=false) :
    f7 215 m c w B b (.tuple #[]) ((x,p)::r) f at_:=by
  obtain⟨x0,x1,x2,x3,x4⟩:=h.cells;have HM:=aa h;clear h;go_enter Tryz.func215,Tryz.ntmps215
  go_wp2_with (first
    | (go_at_call 243;refine fj (BM.refl _ _) (iS B b _ _ _ _ _ HM.out h92 h36 h96) fun w1 q1 HM1 x0 x1 x2 x3 x4=>?_))
  all_goals go_returns
  all_goals exact ek HM1.out q1 rfl rfl
theorem nh (x c d:UInt8) (f:Bool) (at_:Int) (w:World) (h:eH w B b ((x,p)::r) f at_) (hl:r.length≤99990) (hd:gk c=[d]) :
    f7 216 m c w B b (.tuple #[]) ((d,at_)::(x,p)::r) f at_:=by
  obtain⟨x0,x1,x2,x3,x4⟩:=h.cells;have HM:=aa h;clear h;go_enter Tryz.func216,Tryz.ntmps216
  go_wp2_with (first
    | (go_at_call 243;refine fj (BM.refl _ _) (oT B b _ _ _ _ _ _ HM.out (by simp) (by simp;omega) hd) fun w1 q1 HM1 x0 x1 x2 x3 x4=>?_))
  all_goals go_returns
  all_goals exact ek HM1.out q1 rfl rfl
theorem E6 (h:eH w B b ((68,p)::r) f at_) (hl:r.length≤99990) (ht:r≠[]) :
    f7 216 5 34 w B b (.tuple #[]) r f at_:=by
  obtain⟨x0,x1,x2,x3,x4⟩:=h.cells;have HM:=aa h;clear h;go_enter Tryz.func216,Tryz.ntmps216
  go_wp2_with (first
    | (go_at_call 243;refine fj (BM.refl _ _) (iS B b _ 34 _ _ _ HM.out (by decide) (by decide) (by decide)) fun w1 q1 HM1 x0 x1 x2 x3 x4=>?_)
    | (go_at_call 182;with_reducible refine fj q1 (jb B b _ _ _ _ _ _ HM1.out ht) fun w2 q2 HM2 x0 x1 x2 x3 x4=>?_))
  all_goals go_returns
  all_goals exact ek HM2.out q2 rfl rfl
theorem BS (x:UInt8) (f:Bool) (at_:Int) (w:World) (h:eH w B b ((x,p)::r) f at_) (hl:r.length≤99990) (hm5:(m==5)=false) :
    f7 216 m 34 w B b (.tuple #[]) ((68,at_)::(x,p)::r) f at_:=by
  obtain⟨x0,x1,x2,x3,x4⟩:=h.cells;have HM:=aa h;clear h;go_enter Tryz.func216,Tryz.ntmps216
  go_wp2_with (first
    | (go_at_call 243;refine fj (BM.refl _ _) (iS B b _ 34 _ _ _ HM.out (by decide) (by decide) (by decide)) fun w1 q1 HM1 x0 x1 x2 x3 x4=>?_)
    | (go_at_call 214;with_reducible refine fj q1 (jI B b _ _ _ 68 5 _ rfl HM1.out (by simp) (by simp at *;omega)) fun w2 q2 HM2 x0 x1 x2 x3 x4=>?_))
  all_goals go_returns
  all_goals exact ek HM2.out q2 rfl rfl
theorem xZ (x:UInt8) (f:Bool) (at_:Int) (w:World) (h:eH w B b ((x,p)::r) f at_) (hl:r.length≤99990) (hm5:(m==5)=false) (hm5n:(m != 5)=true) (ht:r≠[]) :
    f7 216 m 125 w B b (.tuple #[]) r f at_:=by
  obtain⟨x0,x1,x2,x3,x4⟩:=h.cells;have HM:=aa h;clear h;go_enter Tryz.func216,Tryz.ntmps216
  go_wp2_with (first
    | (go_at_call 243;refine fj (BM.refl _ _) (iS B b _ 125 _ _ _ HM.out (by decide) (by decide) (by decide)) fun w1 q1 HM1 x0 x1 x2 x3 x4=>?_)
    | (go_at_call 182;with_reducible refine fj q1 (jb B b _ _ _ _ _ _ HM1.out ht) fun w2 q2 HM2 x0 x1 x2 x3 x4=>?_))
  all_goals go_returns
  all_goals exact ek HM2.out q2 rfl rfl
theorem E5 (h:eH w B b ((86,p)::r) f at_) (hl:r.length≤99990) :
    f7 216 7 39 w B b (.tuple #[]) ((83,at_)::(86,p)::r) f at_:=by
  obtain⟨x0,x1,x2,x3,x4⟩:=h.cells;have HM:=aa h;clear h;go_enter Tryz.func216,Tryz.ntmps216
  go_wp2_with (first
    | (go_at_call 243;refine fj (BM.refl _ _) (iS B b _ 39 _ _ _ HM.out (by decide) (by decide) (by decide)) fun w1 q1 HM1 x0 x1 x2 x3 x4=>?_)
    | (go_at_call 214;with_reducible refine fj q1 (jI B b _ _ _ 83 4 _ rfl HM1.out (by simp) (by simp at *;omega)) fun w2 q2 HM2 x0 x1 x2 x3 x4=>?_))
  all_goals go_returns
  all_goals exact ek HM2.out q2 rfl rfl
theorem EZ (h:eH w B b ((68,p)::r) f at_) (hl:r.length≤99990) (h92:((c.toNat:Int)==92)=false) (h36:((c.toNat:Int)==36)=false) (h96:((c.toNat:Int)==96)=false) (hc34:((c.toNat:Int)==34)=false) :
    f7 216 5 c w B b (.tuple #[]) ((68,p)::r) f at_:=by
  obtain⟨x0,x1,x2,x3,x4⟩:=h.cells;have HM:=aa h;clear h;go_enter Tryz.func216,Tryz.ntmps216
  go_wp2_with (first
    | (go_at_call 243;refine fj (BM.refl _ _) (iS B b _ _ _ _ _ HM.out h92 h36 h96) fun w1 q1 HM1 x0 x1 x2 x3 x4=>?_))
  all_goals go_returns
  all_goals exact ek HM1.out q1 rfl rfl
theorem EY (h:eH w B b ((73,p)::r) f at_) (hl:r.length≤99990) (h92:((c.toNat:Int)==92)=false) (h36:((c.toNat:Int)==36)=false) (h96:((c.toNat:Int)==96)=false) (hc34:((c.toNat:Int)==34)=false) (hc125:((c.toNat:Int)==125)=false) :
    f7 216 8 c w B b (.tuple #[]) ((73,p)::r) f at_:=by
  obtain⟨x0,x1,x2,x3,x4⟩:=h.cells;have HM:=aa h;clear h;go_enter Tryz.func216,Tryz.ntmps216
  go_wp2_with (first
    | (go_at_call 243;refine fj (BM.refl _ _) (iS B b _ _ _ _ _ HM.out h92 h36 h96) fun w1 q1 HM1 x0 x1 x2 x3 x4=>?_))
  all_goals go_returns
  all_goals exact ek HM1.out q1 rfl rfl
theorem EX (h:eH w B b ((86,p)::r) f at_) (hl:r.length≤99990) (h92:((c.toNat:Int)==92)=false) (h36:((c.toNat:Int)==36)=false) (h96:((c.toNat:Int)==96)=false) (hc34:((c.toNat:Int)==34)=false) (hc125:((c.toNat:Int)==125)=false) (hc39:((c.toNat:Int)==39)=false) :
    f7 216 7 c w B b (.tuple #[]) ((86,p)::r) f at_:=by
  obtain⟨x0,x1,x2,x3,x4⟩:=h.cells;have HM:=aa h;clear h;go_enter Tryz.func216,Tryz.ntmps216
  go_wp2_with (first
    | (go_at_call 243;refine fj (BM.refl _ _) (iS B b _ _ _ _ _ HM.out h92 h36 h96) fun w1 q1 HM1 x0 x1 x2 x3 x4=>?_))
  all_goals go_returns
  all_goals exact ek HM1.out q1 rfl rfl
theorem Fh (x:UInt8) (f:Bool) (at_:Int) (w:World) (h:eH w B b ((x,p)::r) f at_) (hl:r.length≤99990) :
    f7 213 m 92 w B b (.tuple #[]) ((88,at_)::(x,p)::r) f at_:=by
  obtain⟨x0,x1,x2,x3,x4⟩:=h.cells;have HM:=aa h;clear h;go_enter Tryz.func213,Tryz.ntmps213
  go_wp2_with (first
    | (go_at_call 214;with_reducible refine fj (BM.refl _ _) (jI B b _ _ _ 88 13 _ rfl HM.out (by simp) (by simp at *;omega)) fun w1 q1 HM1 x0 x1 x2 x3 x4=>?_))
  all_goals go_returns
  all_goals first
    | exact ek HM1.out q1 rfl rfl
    | exact ek (HM1.out.setFresh _) (BM.setCell q1 HM1.out _) rfl (by first|rfl|decide|simp)
theorem Fi (x:UInt8) (f:Bool) (at_:Int) (w:World) (h:eH w B b ((x,p)::r) f at_) (hl:r.length≤99990) :
    f7 213 m 39 w B b (.tuple #[]) ((83,at_)::(x,p)::r) false at_:=by
  obtain⟨x0,x1,x2,x3,x4⟩:=h.cells;have HM:=aa h;clear h;go_enter Tryz.func213,Tryz.ntmps213
  go_wp2_with (first
    | (go_at_call 214;with_reducible refine fj (BM.refl _ _) (jI B b _ _ _ 83 4 _ rfl HM.out (by simp) (by simp at *;omega)) fun w1 q1 HM1 x0 x1 x2 x3 x4=>?_)
    | (go_at_call 226;refine(js 39 _).mono ?_;rintro e w' ⟨rfl,rfl⟩))
  all_goals go_returns
  all_goals first
    | exact ek HM1.out q1 rfl rfl
    | exact ek (HM1.out.setFresh _) (BM.setCell q1 HM1.out _) rfl (by first|rfl|decide|simp)
theorem Fl (x:UInt8) (f:Bool) (at_:Int) (w:World) (h:eH w B b ((x,p)::r) f at_) (hl:r.length≤99990) :
    f7 213 m 34 w B b (.tuple #[]) ((68,at_)::(x,p)::r) false at_:=by
  obtain⟨x0,x1,x2,x3,x4⟩:=h.cells;have HM:=aa h;clear h;go_enter Tryz.func213,Tryz.ntmps213
  go_wp2_with (first
    | (go_at_call 214;with_reducible refine fj (BM.refl _ _) (jI B b _ _ _ 68 5 _ rfl HM.out (by simp) (by simp at *;omega)) fun w1 q1 HM1 x0 x1 x2 x3 x4=>?_)
    | (go_at_call 226;refine(js 34 _).mono ?_;rintro e w' ⟨rfl,rfl⟩))
  all_goals go_returns
  all_goals first
    | exact ek HM1.out q1 rfl rfl
    | exact ek (HM1.out.setFresh _) (BM.setCell q1 HM1.out _) rfl (by first|rfl|decide|simp)
theorem Fj (x:UInt8) (f:Bool) (at_:Int) (w:World) (h:eH w B b ((x,p)::r) f at_) (hl:r.length≤99990) :
    f7 213 m 36 w B b (.tuple #[]) ((76,at_)::(x,p)::r) false at_:=by
  obtain⟨x0,x1,x2,x3,x4⟩:=h.cells;have HM:=aa h;clear h;go_enter Tryz.func213,Tryz.ntmps213
  go_wp2_with (first
    | (go_at_call 243;refine fj (BM.refl _ _) (oT B b _ _ _ 36 76 _ HM.out (by simp) (by simp;omega) (by decide)) fun w1 q1 HM1 x0 x1 x2 x3 x4=>?_)
    | (go_at_call 226;refine(js 36 _).mono ?_;rintro e w' ⟨rfl,rfl⟩))
  all_goals go_returns
  all_goals first
    | exact ek HM1.out q1 rfl rfl
    | exact ek (HM1.out.setFresh _) (BM.setCell q1 HM1.out _) rfl (by first|rfl|decide|simp)
theorem Ff (x:UInt8) (f:Bool) (at_:Int) (w:World) (h:eH w B b ((x,p)::r) f at_) (hl:r.length≤99990) :
    f7 213 m 96 w B b (.tuple #[]) ((66,at_)::(x,p)::r) false at_:=by
  obtain⟨x0,x1,x2,x3,x4⟩:=h.cells;have HM:=aa h;clear h;go_enter Tryz.func213,Tryz.ntmps213
  go_wp2_with (first
    | (go_at_call 243;refine fj (BM.refl _ _) (oT B b _ _ _ 96 66 _ HM.out (by simp) (by simp;omega) (by decide)) fun w1 q1 HM1 x0 x1 x2 x3 x4=>?_)
    | (go_at_call 226;refine(js 96 _).mono ?_;rintro e w' ⟨rfl,rfl⟩))
  all_goals go_returns
  all_goals first
    | exact ek HM1.out q1 rfl rfl
    | exact ek (HM1.out.setFresh _) (BM.setCell q1 HM1.out _) rfl (by first|rfl|decide|simp)
theorem Aw (x:UInt8) (f:Bool) (at_:Int) (w:World) (h:eH w B b ((x,p)::r) true at_) (hl:r.length≤99990) :
    f7 213 m 35 w B b (.tuple #[]) ((35,at_)::(x,p)::r) true at_:=by
  obtain⟨x0,x1,x2,x3,x4⟩:=h.cells;have HM:=aa h;clear h;go_enter Tryz.func213,Tryz.ntmps213
  go_wp2_with (first
    | (go_at_call 214;with_reducible refine fj (BM.refl _ _) (jI B b _ _ _ 35 14 _ rfl HM.out (by simp) (by simp at *;omega)) fun w1 q1 HM1 x0 x1 x2 x3 x4=>?_))
  all_goals go_returns
  all_goals first
    | exact ek HM1.out q1 rfl rfl
    | exact ek (HM1.out.setFresh _) (BM.setCell q1 HM1.out _) rfl (by first|rfl|decide|simp)
theorem Ay (x:UInt8) (f:Bool) (at_:Int) (w:World) (h:eH w B b ((x,p)::r) false at_) (hl:r.length≤99990) :
    f7 213 m 35 w B b (.tuple #[]) ((x,p)::r) false at_:=by
  obtain⟨x0,x1,x2,x3,x4⟩:=h.cells;have HM:=aa h;clear h;go_enter Tryz.func213,Tryz.ntmps213
  go_wp2_with (first
    | (go_at_call 226;refine(js 35 _).mono ?_;rintro e w' ⟨rfl,rfl⟩))
  all_goals go_returns
  all_goals first
    | exact ek HM.out (BM.refl _ _) rfl rfl
    | exact ek (HM.out.setFresh _) (BM.setCell (BM.refl _ _) HM.out _) rfl (by first|rfl|decide|simp)
theorem Li (h:eH w B b ((x,p)::r) f at_) (hl:r.length≤99990) :
    f7 213 0 40 w B b (.tuple #[]) ((x,p)::r) true at_:=by
  obtain⟨x0,x1,x2,x3,x4⟩:=h.cells;have HM:=aa h;clear h;go_enter Tryz.func213,Tryz.ntmps213
  go_wp2_with (first
    | (go_at_call 226;refine(js 40 _).mono ?_;rintro e w' ⟨rfl,rfl⟩))
  all_goals go_returns
  all_goals first
    | exact ek HM.out (BM.refl _ _) rfl rfl
    | exact ek (HM.out.setFresh _) (BM.setCell (BM.refl _ _) HM.out _) rfl (by first|rfl|decide|simp)
theorem Jc (h:eH w B b ((x,p)::r) f at_) (hl:r.length≤99990) :
    f7 213 1 40 w B b (.tuple #[]) ((80,at_)::(x,p)::r) true at_:=by
  obtain⟨x0,x1,x2,x3,x4⟩:=h.cells;have HM:=aa h;clear h;go_enter Tryz.func213,Tryz.ntmps213
  go_wp2_with (first
    | (go_at_call 214;with_reducible refine fj (BM.refl _ _) (jI B b _ _ _ 80 2 _ rfl HM.out (by simp) (by simp at *;omega)) fun w1 q1 HM1 x0 x1 x2 x3 x4=>?_)
    | (go_at_call 226;refine(js 40 _).mono ?_;rintro e w' ⟨rfl,rfl⟩))
  all_goals go_returns
  all_goals first
    | exact ek HM1.out q1 rfl rfl
    | exact ek (HM1.out.setFresh _) (BM.setCell q1 HM1.out _) rfl (by first|rfl|decide|simp)
theorem Jb (h:eH w B b ((x,p)::r) f at_) (hl:r.length≤99990) :
    f7 213 2 40 w B b (.tuple #[]) ((80,at_)::(x,p)::r) true at_:=by
  obtain⟨x0,x1,x2,x3,x4⟩:=h.cells;have HM:=aa h;clear h;go_enter Tryz.func213,Tryz.ntmps213
  go_wp2_with (first
    | (go_at_call 214;with_reducible refine fj (BM.refl _ _) (jI B b _ _ _ 80 2 _ rfl HM.out (by simp) (by simp at *;omega)) fun w1 q1 HM1 x0 x1 x2 x3 x4=>?_)
    | (go_at_call 226;refine(js 40 _).mono ?_;rintro e w' ⟨rfl,rfl⟩))
  all_goals go_returns
  all_goals first
    | exact ek HM1.out q1 rfl rfl
    | exact ek (HM1.out.setFresh _) (BM.setCell q1 HM1.out _) rfl (by first|rfl|decide|simp)
theorem Lh (h:eH w B b ((x,p)::r) f at_) (hl:r.length≤99990) :
    f7 213 0 41 w B b (.tuple #[]) ((x,p)::r) true at_:=by
  obtain⟨x0,x1,x2,x3,x4⟩:=h.cells;have HM:=aa h;clear h;go_enter Tryz.func213,Tryz.ntmps213;go_wp2_with fail;all_goals go_returns
  all_goals first
    | exact ek HM.out (BM.refl _ _) rfl rfl
    | exact ek (HM.out.setFresh _) (BM.setCell (BM.refl _ _) HM.out _) rfl (by first|rfl|decide|simp)
theorem Ja (h:eH w B b ((x,p)::r) f at_) (hl:r.length≤99990) (ht:r≠[]) :
    f7 213 1 41 w B b (.tuple #[]) r false at_:=by
  obtain⟨x0,x1,x2,x3,x4⟩:=h.cells;have HM:=aa h;clear h;go_enter Tryz.func213,Tryz.ntmps213
  go_wp2_with (first
    | (go_at_call 182;with_reducible refine fj (BM.refl _ _) (jb B b _ _ _ _ _ _ HM.out ht) fun w1 q1 HM1 x0 x1 x2 x3 x4=>?_))
  all_goals go_returns
  all_goals first
    | exact ek HM1.out q1 rfl rfl
    | exact ek (HM1.out.setFresh _) (BM.setCell q1 HM1.out _) rfl (by first|rfl|decide|simp)
theorem I9 (h:eH w B b ((x,p)::r) f at_) (hl:r.length≤99990) (ht:r≠[]) :
    f7 213 2 41 w B b (.tuple #[]) r true at_:=by
  obtain⟨x0,x1,x2,x3,x4⟩:=h.cells;have HM:=aa h;clear h;go_enter Tryz.func213,Tryz.ntmps213
  go_wp2_with (first
    | (go_at_call 182;with_reducible refine fj (BM.refl _ _) (jb B b _ _ _ _ _ _ HM.out ht) fun w1 q1 HM1 x0 x1 x2 x3 x4=>?_))
  all_goals go_returns
  all_goals first
    | exact ek HM1.out q1 rfl rfl
    | exact ek (HM1.out.setFresh _) (BM.setCell q1 HM1.out _) rfl (by first|rfl|decide|simp)
theorem Fe (x c:UInt8) (f:Bool) (at_:Int) (w:World) (h:eH w B b ((x,p)::r) f at_) (hl:r.length≤99990) (hc92:((c.toNat:Int)==92)=false) (hc39:((c.toNat:Int)==39)=false) (hc34:((c.toNat:Int)==34)=false) (hc96:((c.toNat:Int)==96)=false) (hc36:((c.toNat:Int)==36)=false) (hc35:((c.toNat:Int)==35)=false) (hc40:((c.toNat:Int)==40)=false) (hc41:((c.toNat:Int)==41)=false) :
    f7 213 m c w B b (.tuple #[]) ((x,p)::r) (gY c) at_:=by
  obtain⟨x0,x1,x2,x3,x4⟩:=h.cells;have HM:=aa h;clear h;go_enter Tryz.func213,Tryz.ntmps213
  go_wp2_with (first
    | (go_at_call 226;refine(js c _).mono ?_;rintro e w' ⟨rfl,rfl⟩))
  all_goals go_returns
  all_goals first
    | exact ek HM.out (BM.refl _ _) rfl rfl
    | exact ek (HM.out.setFresh _) (BM.setCell (BM.refl _ _) HM.out _) rfl (by first|rfl|decide|simp)
theorem bf (b v:UInt8) (h:b≠v):((b.toNat:Int)==(v.toNat:Int))=false:=by
  rw[ay];intro e;exact h (cQ.1 (by omega))
theorem nn {b v:UInt8} (h:b≠v):b.toNat≠v.toNat:=fun e=>h (cQ.1 e)
theorem Ie (r:ff) (p:Int) (b:UInt8) (f:Bool) (at_:Int) (w:World) (h:eH w B b0 ((65,p)::r) f at_) (hl:r.length≤99990) (ht:r≠[]) :
    f7 215 9 b w B b0 (.tuple #[]) (dK ((65,p)::r) f 65 b at_).1 (dK ((65,p)::r) f 65 b at_).2 at_:=by
  rcases aF (b=92) with rfl|hb92
  ·have e:dK ((65,p)::r) f 65 92 at_=(((88,at_)::(65,p)::r),f):=by simp[dK,dU]
   rw[e];exact si B b0 r p 9 65 92 88 f at_ w h hl (by decide)
  have n92:b.toNat≠92:=nn hb92;rcases aF (b=36) with rfl|hb36
  ·have e:dK ((65,p)::r) f 65 36 at_=(((76,at_)::(65,p)::r),f):=by simp[dK,dU]
   rw[e];exact si B b0 r p 9 65 36 76 f at_ w h hl (by decide)
  have n36:b.toNat≠36:=nn hb36;rcases aF (b=96) with rfl|hb96
  ·have e:dK ((65,p)::r) f 65 96 at_=(((66,at_)::(65,p)::r),f):=by simp[dK,dU]
   rw[e];exact si B b0 r p 9 65 96 66 f at_ w h hl (by decide)
  have n96:b.toNat≠96:=nn hb96;rcases aF (b=40) with rfl|hb40
  ·have e:dK ((65,p)::r) f 65 40 at_=(((82,at_)::(65,p)::r),f):=by simp[dK,dU]
   rw[e];exact KR B b0 r p 9 65 f at_ w h hl
  have n40:b.toNat≠40:=nn hb40;rcases aF (b=41) with rfl|hb41
  ·have e:dK ((65,p)::r) f 65 41 at_=(((69,p)::r),f):=by simp[dK,dU]
   rw[e];exact Ig B b0 r p f at_ w h hl
  have n41:b.toNat≠41:=nn hb41;have e:dK ((65,p)::r) f 65 b at_=(((65,p)::r),f):=by simp[dK,dU,n92,n36,n96,n40,n41]
  rw[e];exact KQ B b0 r p 9 65 b f at_ w h hl (bf b 92 hb92) (bf b 36 hb36) (bf b 96 hb96) (bf b 40 hb40) (bf b 41 hb41)
theorem Ic (r:ff) (p:Int) (b:UInt8) (f:Bool) (at_:Int) (w:World) (h:eH w B b0 ((82,p)::r) f at_) (hl:r.length≤99990) (ht:r≠[]) :
    f7 215 10 b w B b0 (.tuple #[]) (dK ((82,p)::r) f 82 b at_).1 (dK ((82,p)::r) f 82 b at_).2 at_:=by
  rcases aF (b=92) with rfl|hb92
  ·have e:dK ((82,p)::r) f 82 92 at_=(((88,at_)::(82,p)::r),f):=by simp[dK,dU]
   rw[e];exact si B b0 r p 10 82 92 88 f at_ w h hl (by decide)
  have n92:b.toNat≠92:=nn hb92;rcases aF (b=36) with rfl|hb36
  ·have e:dK ((82,p)::r) f 82 36 at_=(((76,at_)::(82,p)::r),f):=by simp[dK,dU]
   rw[e];exact si B b0 r p 10 82 36 76 f at_ w h hl (by decide)
  have n36:b.toNat≠36:=nn hb36;rcases aF (b=96) with rfl|hb96
  ·have e:dK ((82,p)::r) f 82 96 at_=(((66,at_)::(82,p)::r),f):=by simp[dK,dU]
   rw[e];exact si B b0 r p 10 82 96 66 f at_ w h hl (by decide)
  have n96:b.toNat≠96:=nn hb96;rcases aF (b=40) with rfl|hb40
  ·have e:dK ((82,p)::r) f 82 40 at_=(((82,at_)::(82,p)::r),f):=by simp[dK,dU]
   rw[e];exact KR B b0 r p 10 82 f at_ w h hl
  have n40:b.toNat≠40:=nn hb40;rcases aF (b=41) with rfl|hb41
  ·have e:dK ((82,p)::r) f 82 41 at_=(r,f):=by simp[dK,dU]
   rw[e];exact If B b0 r p f at_ w h hl ht
  have n41:b.toNat≠41:=nn hb41;have e:dK ((82,p)::r) f 82 b at_=(((82,p)::r),f):=by simp[dK,dU,n92,n36,n96,n40,n41]
  rw[e];exact KQ B b0 r p 10 82 b f at_ w h hl (bf b 92 hb92) (bf b 36 hb36) (bf b 96 hb96) (bf b 40 hb40) (bf b 41 hb41)
theorem C8 (r:ff) (p:Int) (b:UInt8) (f:Bool) (at_:Int) (w:World) (h:eH w B b0 ((68,p)::r) f at_) (hl:r.length≤99990) (ht:r≠[]) :
    f7 216 5 b w B b0 (.tuple #[]) (dK ((68,p)::r) f 68 b at_).1 (dK ((68,p)::r) f 68 b at_).2 at_:=by
  rcases aF (b=92) with rfl|hb92
  ·have e:dK ((68,p)::r) f 68 92 at_=(((88,at_)::(68,p)::r),f):=by simp[dK,dU]
   rw[e];exact nh B b0 r p 5 68 92 88 f at_ w h hl (by decide)
  have n92:b.toNat≠92:=nn hb92;rcases aF (b=36) with rfl|hb36
  ·have e:dK ((68,p)::r) f 68 36 at_=(((76,at_)::(68,p)::r),f):=by simp[dK,dU]
   rw[e];exact nh B b0 r p 5 68 36 76 f at_ w h hl (by decide)
  have n36:b.toNat≠36:=nn hb36;rcases aF (b=96) with rfl|hb96
  ·have e:dK ((68,p)::r) f 68 96 at_=(((66,at_)::(68,p)::r),f):=by simp[dK,dU]
   rw[e];exact nh B b0 r p 5 68 96 66 f at_ w h hl (by decide)
  have n96:b.toNat≠96:=nn hb96;rcases aF (b=34) with rfl|hb34
  ·have e:dK ((68,p)::r) f 68 34 at_=(r,f):=by simp[dK,dU]
   rw[e];exact E6 B b0 r p f at_ w h hl ht
  have n34:b.toNat≠34:=nn hb34;have e:dK ((68,p)::r) f 68 b at_=(((68,p)::r),f):=by simp[dK,dU,n92,n36,n96,n34]
  rw[e];exact EZ B b0 r p b f at_ w h hl (bf b 92 hb92) (bf b 36 hb36) (bf b 96 hb96) (bf b 34 hb34)
theorem C6 (r:ff) (p:Int) (b:UInt8) (f:Bool) (at_:Int) (w:World) (h:eH w B b0 ((73,p)::r) f at_) (hl:r.length≤99990) (ht:r≠[]) :
    f7 216 8 b w B b0 (.tuple #[]) (dK ((73,p)::r) f 73 b at_).1 (dK ((73,p)::r) f 73 b at_).2 at_:=by
  rcases aF (b=92) with rfl|hb92
  ·have e:dK ((73,p)::r) f 73 92 at_=(((88,at_)::(73,p)::r),f):=by simp[dK,dU]
   rw[e];exact nh B b0 r p 8 73 92 88 f at_ w h hl (by decide)
  have n92:b.toNat≠92:=nn hb92;rcases aF (b=36) with rfl|hb36
  ·have e:dK ((73,p)::r) f 73 36 at_=(((76,at_)::(73,p)::r),f):=by simp[dK,dU]
   rw[e];exact nh B b0 r p 8 73 36 76 f at_ w h hl (by decide)
  have n36:b.toNat≠36:=nn hb36;rcases aF (b=96) with rfl|hb96
  ·have e:dK ((73,p)::r) f 73 96 at_=(((66,at_)::(73,p)::r),f):=by simp[dK,dU]
   rw[e];exact nh B b0 r p 8 73 96 66 f at_ w h hl (by decide)
  have n96:b.toNat≠96:=nn hb96;rcases aF (b=34) with rfl|hb34
  ·have e:dK ((73,p)::r) f 73 34 at_=(((68,at_)::(73,p)::r),f):=by simp[dK,dU]
   rw[e];exact BS B b0 r p 8 73 f at_ w h hl rfl
  have n34:b.toNat≠34:=nn hb34;rcases aF (b=125) with rfl|hb125
  ·have e:dK ((73,p)::r) f 73 125 at_=(r,f):=by simp[dK,dU]
   rw[e];exact xZ B b0 r p 8 73 f at_ w h hl rfl rfl ht
  have n125:b.toNat≠125:=nn hb125;have e:dK ((73,p)::r) f 73 b at_=(((73,p)::r),f):=by simp[dK,dU,n92,n36,n96,n34,n125]
  rw[e];exact EY B b0 r p b f at_ w h hl (bf b 92 hb92) (bf b 36 hb36) (bf b 96 hb96) (bf b 34 hb34) (bf b 125 hb125)
theorem C5 (r:ff) (p:Int) (b:UInt8) (f:Bool) (at_:Int) (w:World) (h:eH w B b0 ((86,p)::r) f at_) (hl:r.length≤99990) (ht:r≠[]) :
    f7 216 7 b w B b0 (.tuple #[]) (dK ((86,p)::r) f 86 b at_).1 (dK ((86,p)::r) f 86 b at_).2 at_:=by
  rcases aF (b=92) with rfl|hb92
  ·have e:dK ((86,p)::r) f 86 92 at_=(((88,at_)::(86,p)::r),f):=by simp[dK,dU]
   rw[e];exact nh B b0 r p 7 86 92 88 f at_ w h hl (by decide)
  have n92:b.toNat≠92:=nn hb92;rcases aF (b=36) with rfl|hb36
  ·have e:dK ((86,p)::r) f 86 36 at_=(((76,at_)::(86,p)::r),f):=by simp[dK,dU]
   rw[e];exact nh B b0 r p 7 86 36 76 f at_ w h hl (by decide)
  have n36:b.toNat≠36:=nn hb36;rcases aF (b=96) with rfl|hb96
  ·have e:dK ((86,p)::r) f 86 96 at_=(((66,at_)::(86,p)::r),f):=by simp[dK,dU]
   rw[e];exact nh B b0 r p 7 86 96 66 f at_ w h hl (by decide)
  have n96:b.toNat≠96:=nn hb96;rcases aF (b=34) with rfl|hb34
  ·have e:dK ((86,p)::r) f 86 34 at_=(((68,at_)::(86,p)::r),f):=by simp[dK,dU]
   rw[e];exact BS B b0 r p 7 86 f at_ w h hl rfl
  have n34:b.toNat≠34:=nn hb34;rcases aF (b=125) with rfl|hb125
  ·have e:dK ((86,p)::r) f 86 125 at_=(r,f):=by simp[dK,dU]
   rw[e];exact xZ B b0 r p 7 86 f at_ w h hl rfl rfl ht
  have n125:b.toNat≠125:=nn hb125;rcases aF (b=39) with rfl|hb39
  ·have e:dK ((86,p)::r) f 86 39 at_=(((83,at_)::(86,p)::r),f):=by simp[dK,dU]
   rw[e];exact E5 B b0 r p f at_ w h hl
  have n39:b.toNat≠39:=nn hb39;have e:dK ((86,p)::r) f 86 b at_=(((86,p)::r),f):=by simp[dK,dU,n92,n36,n96,n34,n125,n39]
  rw[e];exact EX B b0 r p b f at_ w h hl (bf b 92 hb92) (bf b 36 hb36) (bf b 96 hb96) (bf b 34 hb34) (bf b 125 hb125) (bf b 39 hb39)
theorem Aq (r:ff) (p:Int) (b:UInt8) (f:Bool) (at_:Int) (w:World) (h:eH w B b0 ((84,p)::r) f at_) (hl:r.length≤99990) :
    f7 213 0 b w B b0 (.tuple #[]) (dK ((84,p)::r) f 84 b at_).1 (dK ((84,p)::r) f 84 b at_).2 at_:=by
  rcases aF (b=92) with rfl|hb92
  ·have e:dK ((84,p)::r) f 84 92 at_=(((88,at_)::(84,p)::r),f):=by simp[dK,dU]
   rw[e];exact Fh B b0 r p 0 84 f at_ w h hl
  have n92:b.toNat≠92:=nn hb92;rcases aF (b=39) with rfl|hb39
  ·have e:dK ((84,p)::r) f 84 39 at_=(((83,at_)::(84,p)::r),false):=by simp[dK,dU]
   rw[e];exact Fi B b0 r p 0 84 f at_ w h hl
  have n39:b.toNat≠39:=nn hb39;rcases aF (b=34) with rfl|hb34
  ·have e:dK ((84,p)::r) f 84 34 at_=(((68,at_)::(84,p)::r),false):=by simp[dK,dU]
   rw[e];exact Fl B b0 r p 0 84 f at_ w h hl
  have n34:b.toNat≠34:=nn hb34;rcases aF (b=96) with rfl|hb96
  ·have e:dK ((84,p)::r) f 84 96 at_=(((66,at_)::(84,p)::r),false):=by simp[dK,dU]
   rw[e];exact Ff B b0 r p 0 84 f at_ w h hl
  have n96:b.toNat≠96:=nn hb96;rcases aF (b=36) with rfl|hb36
  ·have e:dK ((84,p)::r) f 84 36 at_=(((76,at_)::(84,p)::r),false):=by simp[dK,dU]
   rw[e];exact Fj B b0 r p 0 84 f at_ w h hl
  have n36:b.toNat≠36:=nn hb36;rcases aF (b=40) with rfl|hb40
  ·have e:dK ((84,p)::r) f 84 40 at_=(((84,p)::r),true):=by simp[dK,dU]
   rw[e];exact Li B b0 r p 84 f at_ w h hl
  have n40:b.toNat≠40:=nn hb40;rcases aF (b=41) with rfl|hb41
  ·have e:dK ((84,p)::r) f 84 41 at_=(((84,p)::r),true):=by simp[dK,dU]
   rw[e];exact Lh B b0 r p 84 f at_ w h hl
  have n41:b.toNat≠41:=nn hb41;rcases aF (b=35) with rfl|hb35
  ·cases f
   ·have e:dK ((84,p)::r) false 84 35 at_=(((84,p)::r),false):=by simp[dK,dU,gY,fi]
    rw[e];exact Ay B b0 r p 0 84 false at_ w h hl
   ·have e:dK ((84,p)::r) true 84 35 at_=(((35,at_)::(84,p)::r),true):=by simp[dK,dU]
    rw[e];exact Aw B b0 r p 0 84 true at_ w h hl
  have n35:b.toNat≠35:=nn hb35;have e:dK ((84,p)::r) f 84 b at_=(((84,p)::r),gY b):=by simp[dK,dU,n92,n39,n34,n96,n36,n40,n41,n35]
  rw[e];exact Fe B b0 r p 0 84 b f at_ w h hl (bf b 92 hb92) (bf b 39 hb39) (bf b 34 hb34) (bf b 96 hb96) (bf b 36 hb36) (bf b 35 hb35) (bf b 40 hb40) (bf b 41 hb41)
theorem As (r:ff) (p:Int) (b:UInt8) (f:Bool) (at_:Int) (w:World) (h:eH w B b0 ((67,p)::r) f at_) (hl:r.length≤99990) (ht:r≠[]) :
    f7 213 1 b w B b0 (.tuple #[]) (dK ((67,p)::r) f 67 b at_).1 (dK ((67,p)::r) f 67 b at_).2 at_:=by
  rcases aF (b=92) with rfl|hb92
  ·have e:dK ((67,p)::r) f 67 92 at_=(((88,at_)::(67,p)::r),f):=by simp[dK,dU]
   rw[e];exact Fh B b0 r p 1 67 f at_ w h hl
  have n92:b.toNat≠92:=nn hb92;rcases aF (b=39) with rfl|hb39
  ·have e:dK ((67,p)::r) f 67 39 at_=(((83,at_)::(67,p)::r),false):=by simp[dK,dU]
   rw[e];exact Fi B b0 r p 1 67 f at_ w h hl
  have n39:b.toNat≠39:=nn hb39;rcases aF (b=34) with rfl|hb34
  ·have e:dK ((67,p)::r) f 67 34 at_=(((68,at_)::(67,p)::r),false):=by simp[dK,dU]
   rw[e];exact Fl B b0 r p 1 67 f at_ w h hl
  have n34:b.toNat≠34:=nn hb34;rcases aF (b=96) with rfl|hb96
  ·have e:dK ((67,p)::r) f 67 96 at_=(((66,at_)::(67,p)::r),false):=by simp[dK,dU]
   rw[e];exact Ff B b0 r p 1 67 f at_ w h hl
  have n96:b.toNat≠96:=nn hb96;rcases aF (b=36) with rfl|hb36
  ·have e:dK ((67,p)::r) f 67 36 at_=(((76,at_)::(67,p)::r),false):=by simp[dK,dU]
   rw[e];exact Fj B b0 r p 1 67 f at_ w h hl
  have n36:b.toNat≠36:=nn hb36;rcases aF (b=40) with rfl|hb40
  ·have e:dK ((67,p)::r) f 67 40 at_=(((80,at_)::(67,p)::r),true):=by simp[dK,dU]
   rw[e];exact Jc B b0 r p 67 f at_ w h hl
  have n40:b.toNat≠40:=nn hb40;rcases aF (b=41) with rfl|hb41
  ·have e:dK ((67,p)::r) f 67 41 at_=(r,false):=by simp[dK,dU]
   rw[e];exact Ja B b0 r p 67 f at_ w h hl ht
  have n41:b.toNat≠41:=nn hb41;rcases aF (b=35) with rfl|hb35
  ·cases f
   ·have e:dK ((67,p)::r) false 67 35 at_=(((67,p)::r),false):=by simp[dK,dU,gY,fi]
    rw[e];exact Ay B b0 r p 1 67 false at_ w h hl
   ·have e:dK ((67,p)::r) true 67 35 at_=(((35,at_)::(67,p)::r),true):=by simp[dK,dU]
    rw[e];exact Aw B b0 r p 1 67 true at_ w h hl
  have n35:b.toNat≠35:=nn hb35;have e:dK ((67,p)::r) f 67 b at_=(((67,p)::r),gY b):=by simp[dK,dU,n92,n39,n34,n96,n36,n40,n41,n35]
  rw[e];exact Fe B b0 r p 1 67 b f at_ w h hl (bf b 92 hb92) (bf b 39 hb39) (bf b 34 hb34) (bf b 96 hb96) (bf b 36 hb36) (bf b 35 hb35) (bf b 40 hb40) (bf b 41 hb41)
theorem Ar (r:ff) (p:Int) (b:UInt8) (f:Bool) (at_:Int) (w:World) (h:eH w B b0 ((80,p)::r) f at_) (hl:r.length≤99990) (ht:r≠[]) :
    f7 213 2 b w B b0 (.tuple #[]) (dK ((80,p)::r) f 80 b at_).1 (dK ((80,p)::r) f 80 b at_).2 at_:=by
  rcases aF (b=92) with rfl|hb92
  ·have e:dK ((80,p)::r) f 80 92 at_=(((88,at_)::(80,p)::r),f):=by simp[dK,dU]
   rw[e];exact Fh B b0 r p 2 80 f at_ w h hl
  have n92:b.toNat≠92:=nn hb92;rcases aF (b=39) with rfl|hb39
  ·have e:dK ((80,p)::r) f 80 39 at_=(((83,at_)::(80,p)::r),false):=by simp[dK,dU]
   rw[e];exact Fi B b0 r p 2 80 f at_ w h hl
  have n39:b.toNat≠39:=nn hb39;rcases aF (b=34) with rfl|hb34
  ·have e:dK ((80,p)::r) f 80 34 at_=(((68,at_)::(80,p)::r),false):=by simp[dK,dU]
   rw[e];exact Fl B b0 r p 2 80 f at_ w h hl
  have n34:b.toNat≠34:=nn hb34;rcases aF (b=96) with rfl|hb96
  ·have e:dK ((80,p)::r) f 80 96 at_=(((66,at_)::(80,p)::r),false):=by simp[dK,dU]
   rw[e];exact Ff B b0 r p 2 80 f at_ w h hl
  have n96:b.toNat≠96:=nn hb96;rcases aF (b=36) with rfl|hb36
  ·have e:dK ((80,p)::r) f 80 36 at_=(((76,at_)::(80,p)::r),false):=by simp[dK,dU]
   rw[e];exact Fj B b0 r p 2 80 f at_ w h hl
  have n36:b.toNat≠36:=nn hb36;rcases aF (b=40) with rfl|hb40
  ·have e:dK ((80,p)::r) f 80 40 at_=(((80,at_)::(80,p)::r),true):=by simp[dK,dU]
   rw[e];exact Jb B b0 r p 80 f at_ w h hl
  have n40:b.toNat≠40:=nn hb40;rcases aF (b=41) with rfl|hb41
  ·have e:dK ((80,p)::r) f 80 41 at_=(r,true):=by simp[dK,dU]
   rw[e];exact I9 B b0 r p 80 f at_ w h hl ht
  have n41:b.toNat≠41:=nn hb41;rcases aF (b=35) with rfl|hb35
  ·cases f
   ·have e:dK ((80,p)::r) false 80 35 at_=(((80,p)::r),false):=by simp[dK,dU,gY,fi]
    rw[e];exact Ay B b0 r p 2 80 false at_ w h hl
   ·have e:dK ((80,p)::r) true 80 35 at_=(((35,at_)::(80,p)::r),true):=by simp[dK,dU]
    rw[e];exact Aw B b0 r p 2 80 true at_ w h hl
  have n35:b.toNat≠35:=nn hb35;have e:dK ((80,p)::r) f 80 b at_=(((80,p)::r),gY b):=by simp[dK,dU,n92,n39,n34,n96,n36,n40,n41,n35]
  rw[e];exact Fe B b0 r p 2 80 b f at_ w h hl (bf b 92 hb92) (bf b 39 hb39) (bf b 34 hb34) (bf b 96 hb96) (bf b 36 hb36) (bf b 35 hb35) (bf b 40 hb40) (bf b 41 hb41)
theorem ME (h:eH w B b ((84,p)::r) f at_) (hl:r.length≤99990) :
    f7 183 0 c w B b (.tuple #[]) (dK ((84,p)::r) f 84 c at_).1 (dK ((84,p)::r) f 84 c at_).2 at_:=by
  obtain⟨x0,x1,x2,x3,x4⟩:=h.cells;have HM:=aa h;clear h;go_enter Tryz.func183,Tryz.ntmps183
  go_wp2_with (first
    | (go_at_call 213;refine fj (BM.refl _ _) (Aq B b r p _ _ _ _ HM.out hl) fun w1 q1 HM1 x0 x1 x2 x3 x4=>?_))
  all_goals go_returns
  all_goals first
    | exact ek HM1.out q1 rfl rfl
    | exact ek (HM1.out.setFresh _) (BM.setCell q1 HM1.out _) rfl rfl
theorem MJ (h:eH w B b ((67,p)::r) f at_) (hl:r.length≤99990) (ht:r≠[]) :
    f7 183 1 c w B b (.tuple #[]) (dK ((67,p)::r) f 67 c at_).1 (dK ((67,p)::r) f 67 c at_).2 at_:=by
  obtain⟨x0,x1,x2,x3,x4⟩:=h.cells;have HM:=aa h;clear h;go_enter Tryz.func183,Tryz.ntmps183
  go_wp2_with (first
    | (go_at_call 213;refine fj (BM.refl _ _) (As B b r p _ _ _ _ HM.out hl ht) fun w1 q1 HM1 x0 x1 x2 x3 x4=>?_))
  all_goals go_returns
  all_goals first
    | exact ek HM1.out q1 rfl rfl
    | exact ek (HM1.out.setFresh _) (BM.setCell q1 HM1.out _) rfl rfl
theorem MG (h:eH w B b ((80,p)::r) f at_) (hl:r.length≤99990) (ht:r≠[]) :
    f7 183 2 c w B b (.tuple #[]) (dK ((80,p)::r) f 80 c at_).1 (dK ((80,p)::r) f 80 c at_).2 at_:=by
  obtain⟨x0,x1,x2,x3,x4⟩:=h.cells;have HM:=aa h;clear h;go_enter Tryz.func183,Tryz.ntmps183
  go_wp2_with (first
    | (go_at_call 213;refine fj (BM.refl _ _) (Ar B b r p _ _ _ _ HM.out hl ht) fun w1 q1 HM1 x0 x1 x2 x3 x4=>?_))
  all_goals go_returns
  all_goals first
    | exact ek HM1.out q1 rfl rfl
    | exact ek (HM1.out.setFresh _) (BM.setCell q1 HM1.out _) rfl rfl
theorem MK (h:eH w B b ((65,p)::r) f at_) (hl:r.length≤99990) (ht:r≠[]) :
    f7 183 9 c w B b (.tuple #[]) (dK ((65,p)::r) f 65 c at_).1 (dK ((65,p)::r) f 65 c at_).2 at_:=by
  obtain⟨x0,x1,x2,x3,x4⟩:=h.cells;have HM:=aa h;clear h;go_enter Tryz.func183,Tryz.ntmps183
  go_wp2_with (first
    | (go_at_call 215;refine fj (BM.refl _ _) (Ie B b r p _ _ _ _ HM.out hl ht) fun w1 q1 HM1 x0 x1 x2 x3 x4=>?_))
  all_goals go_returns
  all_goals first
    | exact ek HM1.out q1 rfl rfl
    | exact ek (HM1.out.setFresh _) (BM.setCell q1 HM1.out _) rfl rfl
theorem MF (h:eH w B b ((82,p)::r) f at_) (hl:r.length≤99990) (ht:r≠[]) :
    f7 183 10 c w B b (.tuple #[]) (dK ((82,p)::r) f 82 c at_).1 (dK ((82,p)::r) f 82 c at_).2 at_:=by
  obtain⟨x0,x1,x2,x3,x4⟩:=h.cells;have HM:=aa h;clear h;go_enter Tryz.func183,Tryz.ntmps183
  go_wp2_with (first
    | (go_at_call 215;refine fj (BM.refl _ _) (Ic B b r p _ _ _ _ HM.out hl ht) fun w1 q1 HM1 x0 x1 x2 x3 x4=>?_))
  all_goals go_returns
  all_goals first
    | exact ek HM1.out q1 rfl rfl
    | exact ek (HM1.out.setFresh _) (BM.setCell q1 HM1.out _) rfl rfl
theorem MI (h:eH w B b ((68,p)::r) f at_) (hl:r.length≤99990) (ht:r≠[]) :
    f7 183 5 c w B b (.tuple #[]) (dK ((68,p)::r) f 68 c at_).1 (dK ((68,p)::r) f 68 c at_).2 at_:=by
  obtain⟨x0,x1,x2,x3,x4⟩:=h.cells;have HM:=aa h;clear h;go_enter Tryz.func183,Tryz.ntmps183
  go_wp2_with (first
    | (go_at_call 216;refine fj (BM.refl _ _) (C8 B b r p _ _ _ _ HM.out hl ht) fun w1 q1 HM1 x0 x1 x2 x3 x4=>?_))
  all_goals go_returns
  all_goals first
    | exact ek HM1.out q1 rfl rfl
    | exact ek (HM1.out.setFresh _) (BM.setCell q1 HM1.out _) rfl rfl
theorem MH (h:eH w B b ((73,p)::r) f at_) (hl:r.length≤99990) (ht:r≠[]) :
    f7 183 8 c w B b (.tuple #[]) (dK ((73,p)::r) f 73 c at_).1 (dK ((73,p)::r) f 73 c at_).2 at_:=by
  obtain⟨x0,x1,x2,x3,x4⟩:=h.cells;have HM:=aa h;clear h;go_enter Tryz.func183,Tryz.ntmps183
  go_wp2_with (first
    | (go_at_call 216;refine fj (BM.refl _ _) (C6 B b r p _ _ _ _ HM.out hl ht) fun w1 q1 HM1 x0 x1 x2 x3 x4=>?_))
  all_goals go_returns
  all_goals first
    | exact ek HM1.out q1 rfl rfl
    | exact ek (HM1.out.setFresh _) (BM.setCell q1 HM1.out _) rfl rfl
theorem MD (h:eH w B b ((86,p)::r) f at_) (hl:r.length≤99990) (ht:r≠[]) :
    f7 183 7 c w B b (.tuple #[]) (dK ((86,p)::r) f 86 c at_).1 (dK ((86,p)::r) f 86 c at_).2 at_:=by
  obtain⟨x0,x1,x2,x3,x4⟩:=h.cells;have HM:=aa h;clear h;go_enter Tryz.func183,Tryz.ntmps183
  go_wp2_with (first
    | (go_at_call 216;refine fj (BM.refl _ _) (C5 B b r p _ _ _ _ HM.out hl ht) fun w1 q1 HM1 x0 x1 x2 x3 x4=>?_))
  all_goals go_returns
  all_goals first
    | exact ek HM1.out q1 rfl rfl
    | exact ek (HM1.out.setFresh _) (BM.setCell q1 HM1.out _) rfl rfl
theorem Db (f:Bool) (at_:Int) (w:World) (h:eH w B b ((88,p)::r) true at_) (hl:r.length≤99990) (ht:r≠[]) :
    f7 183 13 10 w B b (.tuple #[]) r true at_:=by
  obtain⟨x0,x1,x2,x3,x4⟩:=h.cells;have HM:=aa h;clear h;go_enter Tryz.func183,Tryz.ntmps183
  go_wp2_with (first
    | (go_at_call 182;with_reducible refine fj (BM.refl _ _) (jb B b _ _ _ _ _ _ HM.out ht) fun w1 q1 HM1 x0 x1 x2 x3 x4=>?_))
  all_goals go_returns
  all_goals first
    | exact ek HM1.out q1 rfl rfl
    | exact ek (HM1.out.setFresh _) (BM.setCell q1 HM1.out _) rfl rfl
theorem Fp (f:Bool) (at_:Int) (w:World) (h:eH w B b ((88,p)::r) true at_) (hl:r.length≤99990) (ht:r≠[]) (hc10:((c.toNat:Int)==10)=false) :
    f7 183 13 c w B b (.tuple #[]) r false at_:=by
  obtain⟨x0,x1,x2,x3,x4⟩:=h.cells;have HM:=aa h;clear h;go_enter Tryz.func183,Tryz.ntmps183
  go_wp2_with (first
    | (go_at_call 182;with_reducible refine fj (BM.refl _ _) (jb B b _ _ _ _ _ _ HM.out ht) fun w1 q1 HM1 x0 x1 x2 x3 x4=>?_))
  all_goals go_returns
  all_goals first
    | exact ek HM1.out q1 rfl rfl
    | exact ek (HM1.out.setFresh _) (BM.setCell q1 HM1.out _) rfl rfl
theorem Dc (f:Bool) (at_:Int) (w:World) (h:eH w B b ((88,p)::r) false at_) (hl:r.length≤99990) (ht:r≠[]) :
    f7 183 13 10 w B b (.tuple #[]) r false at_:=by
  obtain⟨x0,x1,x2,x3,x4⟩:=h.cells;have HM:=aa h;clear h;go_enter Tryz.func183,Tryz.ntmps183
  go_wp2_with (first
    | (go_at_call 182;with_reducible refine fj (BM.refl _ _) (jb B b _ _ _ _ _ _ HM.out ht) fun w1 q1 HM1 x0 x1 x2 x3 x4=>?_))
  all_goals go_returns
  all_goals first
    | exact ek HM1.out q1 rfl rfl
    | exact ek (HM1.out.setFresh _) (BM.setCell q1 HM1.out _) rfl rfl
theorem Fq (f:Bool) (at_:Int) (w:World) (h:eH w B b ((88,p)::r) false at_) (hl:r.length≤99990) (ht:r≠[]) (hc10:((c.toNat:Int)==10)=false) :
    f7 183 13 c w B b (.tuple #[]) r false at_:=by
  obtain⟨x0,x1,x2,x3,x4⟩:=h.cells;have HM:=aa h;clear h;go_enter Tryz.func183,Tryz.ntmps183
  go_wp2_with (first
    | (go_at_call 182;with_reducible refine fj (BM.refl _ _) (jb B b _ _ _ _ _ _ HM.out ht) fun w1 q1 HM1 x0 x1 x2 x3 x4=>?_))
  all_goals go_returns
  all_goals first
    | exact ek HM1.out q1 rfl rfl
    | exact ek (HM1.out.setFresh _) (BM.setCell q1 HM1.out _) rfl rfl
theorem Fs (h:eH w B b ((83,p)::r) f at_) (hl:r.length≤99990) (ht:r≠[]) :
    f7 183 4 39 w B b (.tuple #[]) r f at_:=by
  obtain⟨x0,x1,x2,x3,x4⟩:=h.cells;have HM:=aa h;clear h;go_enter Tryz.func183,Tryz.ntmps183
  go_wp2_with (first
    | (go_at_call 182;with_reducible refine fj (BM.refl _ _) (jb B b _ _ _ _ _ _ HM.out ht) fun w1 q1 HM1 x0 x1 x2 x3 x4=>?_))
  all_goals go_returns
  all_goals first
    | exact ek HM1.out q1 rfl rfl
    | exact ek (HM1.out.setFresh _) (BM.setCell q1 HM1.out _) rfl rfl
theorem Jd (h:eH w B b ((83,p)::r) f at_) (hl:r.length≤99990) (hc39:((c.toNat:Int)==39)=false) :
    f7 183 4 c w B b (.tuple #[]) ((83,p)::r) f at_:=by
  obtain⟨x0,x1,x2,x3,x4⟩:=h.cells;have HM:=aa h;clear h;go_enter Tryz.func183,Tryz.ntmps183;go_wp2_with fail;all_goals go_returns
  all_goals first
    | exact ek HM.out (BM.refl _ _) rfl rfl
    | exact ek (HM.out.setFresh _) (BM.setCell (BM.refl _ _) HM.out _) rfl rfl
theorem Fv (h:eH w B b ((35,p)::r) f at_) (hl:r.length≤99990) (ht:r≠[]) :
    f7 183 14 10 w B b (.tuple #[]) r true at_:=by
  obtain⟨x0,x1,x2,x3,x4⟩:=h.cells;have HM:=aa h;clear h;go_enter Tryz.func183,Tryz.ntmps183
  go_wp2_with (first
    | (go_at_call 182;with_reducible refine fj (BM.refl _ _) (jb B b _ _ _ _ _ _ HM.out ht) fun w1 q1 HM1 x0 x1 x2 x3 x4=>?_))
  all_goals go_returns
  all_goals first
    | exact ek HM1.out q1 rfl rfl
    | exact ek (HM1.out.setFresh _) (BM.setCell q1 HM1.out _) rfl rfl
theorem Jf (h:eH w B b ((35,p)::r) f at_) (hl:r.length≤99990) (hc10:((c.toNat:Int)==10)=false) :
    f7 183 14 c w B b (.tuple #[]) ((35,p)::r) f at_:=by
  obtain⟨x0,x1,x2,x3,x4⟩:=h.cells;have HM:=aa h;clear h;go_enter Tryz.func183,Tryz.ntmps183;go_wp2_with fail;all_goals go_returns
  all_goals first
    | exact ek HM.out (BM.refl _ _) rfl rfl
    | exact ek (HM.out.setFresh _) (BM.setCell (BM.refl _ _) HM.out _) rfl rfl
theorem Ft (h:eH w B b ((66,p)::r) f at_) (hl:r.length≤99990) (ht:r≠[]) :
    f7 183 6 96 w B b (.tuple #[]) r f at_:=by
  obtain⟨x0,x1,x2,x3,x4⟩:=h.cells;have HM:=aa h;clear h;go_enter Tryz.func183,Tryz.ntmps183
  go_wp2_with (first
    | (go_at_call 182;with_reducible refine fj (BM.refl _ _) (jb B b _ _ _ _ _ _ HM.out ht) fun w1 q1 HM1 x0 x1 x2 x3 x4=>?_))
  all_goals go_returns
  all_goals first
    | exact ek HM1.out q1 rfl rfl
    | exact ek (HM1.out.setFresh _) (BM.setCell q1 HM1.out _) rfl rfl
theorem Fu (h:eH w B b ((66,p)::r) f at_) (hl:r.length≤99990) :
    f7 183 6 92 w B b (.tuple #[]) ((88,at_)::(66,p)::r) f at_:=by
  obtain⟨x0,x1,x2,x3,x4⟩:=h.cells;have HM:=aa h;clear h;go_enter Tryz.func183,Tryz.ntmps183
  go_wp2_with (first
    | (go_at_call 214;with_reducible refine fj (BM.refl _ _) (jI B b _ _ _ 88 13 _ rfl HM.out (by simp) (by simp at *;omega)) fun w1 q1 HM1 x0 x1 x2 x3 x4=>?_))
  all_goals go_returns
  all_goals first
    | exact ek HM1.out q1 rfl rfl
    | exact ek (HM1.out.setFresh _) (BM.setCell q1 HM1.out _) rfl rfl
theorem Je (h:eH w B b ((66,p)::r) f at_) (hl:r.length≤99990) (hc96:((c.toNat:Int)==96)=false) (hc92:((c.toNat:Int)==92)=false) :
    f7 183 6 c w B b (.tuple #[]) ((66,p)::r) f at_:=by
  obtain⟨x0,x1,x2,x3,x4⟩:=h.cells;have HM:=aa h;clear h;go_enter Tryz.func183,Tryz.ntmps183;go_wp2_with fail;all_goals go_returns
  all_goals first
    | exact ek HM.out (BM.refl _ _) rfl rfl
    | exact ek (HM.out.setFresh _) (BM.setCell (BM.refl _ _) HM.out _) rfl rfl
theorem sR (r:ff) (c:UInt8) (p m:Int) (b:UInt8) (f:Bool) (at_:Int) (w:World) (hm:m=eG c) (h:eH w B b0 ((c,p)::r) f at_) (hl:r.length≤99990) (ht:c≠84→r≠[]) (hc:c=84∨c=67∨c=80∨c=65∨c=82∨c=68∨c=73∨c=86∨c=88∨c=83∨c=35∨c=66) :
    f7 183 m b w B b0 (.tuple #[]) (dK ((c,p)::r) f c b at_).1 (dK ((c,p)::r) f c b at_).2 at_:=by
  rcases hc with rfl|rfl|rfl|rfl|rfl|rfl|rfl|rfl|rfl|rfl|rfl|rfl
  ·obtain rfl:m=0:=hm;exact ME B b0 r p b f at_ w h hl
  ·obtain rfl:m=1:=hm;exact MJ B b0 r p b f at_ w h hl (ht (by decide))
  ·obtain rfl:m=2:=hm;exact MG B b0 r p b f at_ w h hl (ht (by decide))
  ·obtain rfl:m=9:=hm;exact MK B b0 r p b f at_ w h hl (ht (by decide))
  ·obtain rfl:m=10:=hm;exact MF B b0 r p b f at_ w h hl (ht (by decide))
  ·obtain rfl:m=5:=hm;exact MI B b0 r p b f at_ w h hl (ht (by decide))
  ·obtain rfl:m=8:=hm;exact MH B b0 r p b f at_ w h hl (ht (by decide))
  ·obtain rfl:m=7:=hm;exact MD B b0 r p b f at_ w h hl (ht (by decide))
  ·obtain rfl:m=13:=hm;have ht:=ht (by decide);rcases aF (b=10) with rfl|hb10
   ·have e:dK ((88,p)::r) f 88 10 at_=(r,f):=by simp[dK]
    rw[e]
    cases f
    ·exact Dc B b0 r p false at_ w h hl ht
    ·exact Db B b0 r p true at_ w h hl ht
   have n10:b.toNat≠10:=nn hb10;have e:dK ((88,p)::r) f 88 b at_=(r,false):=by simp[dK,n10]
   rw[e]
   cases f
   ·exact Fq B b0 r p b false at_ w h hl ht (bf b 10 hb10)
   ·exact Fp B b0 r p b true at_ w h hl ht (bf b 10 hb10)
  ·obtain rfl:m=4:=hm;have ht:=ht (by decide);rcases aF (b=39) with rfl|hb39
   ·have e:dK ((83,p)::r) f 83 39 at_=(r,f):=by simp[dK]
    rw[e];exact Fs B b0 r p f at_ w h hl ht
   have n39:b.toNat≠39:=nn hb39;have e:dK ((83,p)::r) f 83 b at_=(((83,p)::r),f):=by simp[dK,n39]
   rw[e];exact Jd B b0 r p b f at_ w h hl (bf b 39 hb39)
  ·obtain rfl:m=14:=hm;have ht:=ht (by decide);rcases aF (b=10) with rfl|hb10
   ·have e:dK ((35,p)::r) f 35 10 at_=(r,true):=by simp[dK]
    rw[e];exact Fv B b0 r p f at_ w h hl ht
   have n10:b.toNat≠10:=nn hb10;have e:dK ((35,p)::r) f 35 b at_=(((35,p)::r),f):=by simp[dK,n10]
   rw[e];exact Jf B b0 r p b f at_ w h hl (bf b 10 hb10)
  ·obtain rfl:m=6:=hm;have ht:=ht (by decide);rcases aF (b=96) with rfl|hb96
   ·have e:dK ((66,p)::r) f 66 96 at_=(r,f):=by simp[dK]
    rw[e];exact Ft B b0 r p f at_ w h hl ht
   have n96:b.toNat≠96:=nn hb96;rcases aF (b=92) with rfl|hb92
   ·have e:dK ((66,p)::r) f 66 92 at_=(((88,at_)::(66,p)::r),f):=by simp[dK]
    rw[e];exact Fu B b0 r p f at_ w h hl
   have n92:b.toNat≠92:=nn hb92;have e:dK ((66,p)::r) f 66 b at_=(((66,p)::r),f):=by simp[dK,n96,n92]
   rw[e];exact Je B b0 r p b f at_ w h hl (bf b 96 hb96) (bf b 92 hb92)
theorem eH.drewN {w:World} {B b:Nat} {st:ff} {f:Bool} {at_:Int} (h:eH w B b st f at_) (n:Nat):eH (w.drewN n) B b st f at_:=h
theorem wY (p q:Int) (c d:UInt8) (m:Int) (w:World) (hm:m=eG d) (h:eH w B b ((c,p)::(d,q)::st) f at_) :
    Nv 212 #[.pointer (some ⟨b,0,none⟩)] w (.int .i64 m):=by
  subst hm;exact Ki B b st f at_ p q c d w h
theorem Ni (h:eH w B b ((76,p)::(d,q)::r) f at_) (hl:r.length≤99980) :
    lP 180 40 w B b (.bool true) ((79,p)::(d,q)::r) true at_:=by
  obtain⟨x0,x1,x2,x3,x4⟩:=h.cells;have HM:=aa h;clear h;go_enter Tryz.func180,Tryz.ntmps180
  go_wp2_with (first
    | (go_at_call 181;with_reducible refine fj (BM.refl _ _) (kz B b _ _ _ _ _ 79 3 _ rfl HM.out) fun w1 q1 HM1 x0 x1 x2 x3 x4=>?_))
  all_goals go_returns
  all_goals first
    | exact ek HM1.out q1 rfl rfl
    | exact ek (HM1.out.setFresh _) (BM.setCell q1 HM1.out _) rfl rfl
theorem Nj (h:eH w B b ((76,p)::(d,q)::r) f at_) (hl:r.length≤99980) :
    lP 180 36 w B b (.bool true) ((d,q)::r) f at_:=by
  obtain⟨x0,x1,x2,x3,x4⟩:=h.cells;have HM:=aa h;clear h;go_enter Tryz.func180,Tryz.ntmps180
  go_wp2_with (first
    | (go_at_call 182;refine fj (BM.refl _ _) (jb B b _ _ _ _ _ _ HM.out (by simp)) fun w1 q1 HM1 x0 x1 x2 x3 x4=>?_))
  all_goals go_returns
  all_goals first
    | exact ek HM1.out q1 rfl rfl
    | exact ek (HM1.out.setFresh _) (BM.setCell q1 HM1.out _) rfl rfl
theorem ND (h:eH w B b ((76,p)::(d,q)::r) f at_) (hl:r.length≤99980) (hc40:((c.toNat:Int)==40)=false) (hc123:((c.toNat:Int)==123)=false) (hc36:((c.toNat:Int)==36)=false) :
    lP 180 c w B b (.bool false) ((d,q)::r) f at_:=by
  obtain⟨x0,x1,x2,x3,x4⟩:=h.cells;have HM:=aa h;clear h;go_enter Tryz.func180,Tryz.ntmps180
  go_wp2_with (first
    | (go_at_call 182;refine fj (BM.refl _ _) (jb B b _ _ _ _ _ _ HM.out (by simp)) fun w1 q1 HM1 x0 x1 x2 x3 x4=>?_))
  all_goals go_returns
  all_goals first
    | exact ek HM1.out q1 rfl rfl
    | exact ek (HM1.out.setFresh _) (BM.setCell q1 HM1.out _) rfl rfl
theorem Hb (h:eH w B b ((76,p)::(d,q)::r) f at_) (hl:r.length≤99980) (hmd:m=eG d) (hm5:m=5) :
    lP 180 123 w B b (.bool true) ((73,p)::(d,q)::r) f at_:=by
  obtain⟨x0,x1,x2,x3,x4⟩:=h.cells;have HM:=aa h;clear h;subst hm5;have Hmd:=aa hmd;clear hmd;go_enter Tryz.func180,Tryz.ntmps180
  go_wp2_with (first
    | (go_at_call 212;refine(wY B b _ _ _ _ _ _ _ _ _ Hmd.out HM.out).mono ?_;rintro e w0 ⟨rfl,nq,rfl⟩)
    | (go_at_call 181;with_reducible refine fj (BM.drewN (BM.refl B w) nq) (kz B b _ _ _ _ _ 73 8 _ rfl (HM.out.drewN nq)) fun w1 q1 HM1 x0 x1 x2 x3 x4=>?_))
  all_goals go_returns
  all_goals first
    | exact ek HM1.out q1 rfl rfl
    | exact ek (HM1.out.setFresh _) (BM.setCell q1 HM1.out _) rfl rfl
theorem Ha (h:eH w B b ((76,p)::(d,q)::r) f at_) (hl:r.length≤99980) (hmd:m=eG d) (hm5:m=8) :
    lP 180 123 w B b (.bool true) ((73,p)::(d,q)::r) f at_:=by
  obtain⟨x0,x1,x2,x3,x4⟩:=h.cells;have HM:=aa h;clear h;subst hm5;have Hmd:=aa hmd;clear hmd;go_enter Tryz.func180,Tryz.ntmps180
  go_wp2_with (first
    | (go_at_call 212;refine(wY B b _ _ _ _ _ _ _ _ _ Hmd.out HM.out).mono ?_;rintro e w0 ⟨rfl,nq,rfl⟩)
    | (go_at_call 181;with_reducible refine fj (BM.drewN (BM.refl B w) nq) (kz B b _ _ _ _ _ 73 8 _ rfl (HM.out.drewN nq)) fun w1 q1 HM1 x0 x1 x2 x3 x4=>?_))
  all_goals go_returns
  all_goals first
    | exact ek HM1.out q1 rfl rfl
    | exact ek (HM1.out.setFresh _) (BM.setCell q1 HM1.out _) rfl rfl
theorem G9 (h:eH w B b ((76,p)::(d,q)::r) f at_) (hl:r.length≤99980) (hmd:m=eG d) (hm5:(m==5)=false) (hm8:(m==8)=false) :
    lP 180 123 w B b (.bool true) ((86,p)::(d,q)::r) f at_:=by
  obtain⟨x0,x1,x2,x3,x4⟩:=h.cells;have HM:=aa h;clear h;have Hmd:=aa hmd;clear hmd;go_enter Tryz.func180,Tryz.ntmps180
  go_wp2_with (first
    | (go_at_call 212;refine(wY B b _ _ _ _ _ _ _ _ _ Hmd.out HM.out).mono ?_;rintro e w0 ⟨rfl,nq,rfl⟩)
    | (go_at_call 181;with_reducible refine fj (BM.drewN (BM.refl B w) nq) (kz B b _ _ _ _ _ 86 7 _ rfl (HM.out.drewN nq)) fun w1 q1 HM1 x0 x1 x2 x3 x4=>?_))
  all_goals go_returns
  all_goals first
    | exact ek HM1.out q1 rfl rfl
    | exact ek (HM1.out.setFresh _) (BM.setCell q1 HM1.out _) rfl rfl
end Go.Proofs.YtcagfamdoaoimaaGreatDoor
