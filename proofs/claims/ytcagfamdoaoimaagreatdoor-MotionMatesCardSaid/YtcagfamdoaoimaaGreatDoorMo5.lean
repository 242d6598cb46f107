/- The program's machine (modes.Machine) in memory: its frames hold the modes of a stack of letters; open, shut, become, below, New. -/
import Derived.Test.YtcagfamdoaoimaaGreatDoorMem
import Derived.Test.YtcagfamdoaoimaaGreatDoorPl6
import Derived.Test.YtcagfamdoaoimaaGreatDoorCls
set_option linter.unusedVariables false
set_option linter.unusedSimpArgs false
set_option maxRecDepth 100000
set_option maxHeartbeats 8000000
namespace Go.Proofs.YtcagfamdoaoimaaGreatDoor
open Go.RowKit
variable {av:Array Value} {f':Bool} {Q:Ending→World→Prop} {fn:FuncId} {T:List TypeId} {i:Nat} {st':eU} {v:Value} {w' a w0:World} (B b:Nat) (r st:eU) (p q:Int) (x d:UInt8) (m:Int) (c:UInt8) (f:Bool) (at_:Int) (b0:Nat) (w:World)
def fU (st:eU):List Value:=st.reverse.flatMap fun x=>[.int .i64 (eH x.1),.int .i64 x.2]
theorem gy (p:Int) (st:eU):fU ((c,p)::st)=fU st++[.int .i64 (eH c),.int .i64 p]:=by simp[fU]
theorem ij:(fU st).length=st.length*2:=by
  induction st with
  | nil=>rfl
  | cons x st ih=>obtain⟨c,p⟩:=x;rw[gy];simp[ih];omega
def eI (w:World) (B b:Nat) (st:eU) (f:Bool) (at_:Int):Prop:=
  B≤b∧∃g cap,Bk w b 172 #[.slice (some ⟨g,0,none⟩) st.length cap,.bool f,.int .i64 at_]∧w.ownsRow B 170 2 (.slice (some ⟨g,0,none⟩) st.length cap) st.length (fU st)
theorem eI.below {w:World} {B b:Nat} {st:eU} {f:Bool} {at_:Int} (h:eI w B b st f at_) (hb:Below w.heap.size w w'):eI w' B b st f at_:=by
  obtain⟨h1,g,cap,h2,h3⟩:=h;exact⟨h1,g,cap,h2.below hb h2.lt,dS h3 hb⟩
structure BM (B:Nat) (w w':World):Prop where
  b:Below B w w'
  t:KT [172,170] w w'
theorem BM.refl:BM B w w:=⟨aC _ _,KT.refl _ _⟩
theorem BM.trans {B:Nat} {b c:World} (h:BM B a b) (h':BM B b c):BM B a c:=⟨h.b.trans h'.b,h.t.trans h'.t⟩
theorem BM.drewN {B:Nat} {b:World} (h:BM B a b) (n:Nat):BM B a (b.drewN n):=⟨dN h.b n,h.t.drewN n⟩
theorem BM.setCell {B b:Nat} {w:World} {st:eU} {f:Bool} {at_:Int} (h:BM B a w) (hm:eI w B b st f at_) (v:Value):BM B a (w.setCell ⟨b,i,none⟩ v):=by
  obtain⟨h1,g,cap,h2,h3⟩:=hm;exact⟨h.b.setCell h1 v,h.t.setCell h2 (by simp) i v⟩
theorem eI.kt {w:World} {B b:Nat} {st:eU} {f:Bool} {at_:Int} (h:eI w B b st f at_) (hk:KT T w w') (h1:172∉T) (h2:170∉T):eI w' B b st f at_:=by
  obtain⟨m1,g,cap,m2,m3⟩:=h;exact⟨m1,g,cap,m2.kt hk h1,AP m3 hk h2⟩
def Mo (w:World) (B b:Nat) (v:Value) (st:eU) (f:Bool) (at_:Int) (e:Ending) (w':World):Prop:=e=.returned v∧eI w' B b st f at_∧BM B w w'
abbrev lC (fn:FuncId) (c:UInt8) (w:World) (B b:Nat) (v:Value) (st:eU) (f:Bool) (at_:Int):Prop:=Calls Tryz.prog fn #[.pointer (some ⟨b,0,none⟩),.int .u8 (c.toNat:Int)] w (Mo w B b v st f at_)
abbrev fZ (fn:FuncId) (m:Int) (c:UInt8) (w:World) (B b:Nat) (v:Value) (st:eU) (f:Bool) (at_:Int):Prop:=Calls Tryz.prog fn #[.pointer (some ⟨b,0,none⟩),.int .i64 m,.int .u8 (c.toNat:Int)] w (Mo w B b v st f at_)
theorem er {w:World} {B b:Nat} {st:eU} {f:Bool} {at_:Int} (h:eI w' B b st' f' at_) (hb:BM B w w') (hs:st'=st) (hf:f'=f):Mo w B b v st f at_ (.returned v) w':=by
  subst hs hf;exact⟨rfl,h,hb⟩
theorem eI.setFresh {w:World} {B b:Nat} {st:eU} {f:Bool} {at_:Int} (h:eI w B b st f at_) (f':Bool):eI (w.setCell ⟨b,1,none⟩ (.bool f')) B b st f' at_:=by
  obtain⟨h1,g,cap,h2,h3⟩:=h;refine⟨h1,g,cap,by simpa using h2.set 1 (.bool f'),ff h3 ?_ _⟩;exact eQ h3 h2 (by decide)
theorem eI.setAt {w:World} {B b:Nat} {st:eU} {f:Bool} {at_:Int} (h:eI w B b st f at_) (k:Int):eI (w.setCell ⟨b,2,none⟩ (.int .i64 k)) B b st f k:=by
  obtain⟨h1,g,cap,h2,h3⟩:=h;refine⟨h1,g,cap,by simpa using h2.set 2 (.int .i64 k),ff h3 ?_ _⟩;exact eQ h3 h2 (by decide)
theorem Hs (p:Int) (c d:UInt8) (w:World) (h:eI w B b ((c,p)::st) f at_) :
    Calls Tryz.prog 181 #[.pointer (some ⟨b,0,none⟩),.int .i64 (eH d)] w (Mo w B b (.tuple #[]) ((d,p)::st) f at_):=by
  obtain⟨h1,g,cap,h2,h3⟩:=h;have hle:=gM h3;have hcap:=hle.2.2.1;have hc1:st.length+1≤cap:=hle.2.1;unfold maxLen at hcap;have c0:w.cell? ⟨b,0,none⟩=some (.slice (some ⟨g,0,none⟩) (st.length+1) cap):=by rw[h2.cell];rfl
  have c1:w.cell? ⟨g,st.length*2,none⟩=some (.int .i64 (eH c)):=dW h3 _ _ (by rw[gy,aX (by rw[ij];omega)];simp[ij]);have f1:=gC h3 (st.length*2);have H:=aa (ac h1 (ac h2 h3));clear h1 h2 h3 hle;generalize hn:st.length=n at *;have HN:=aa hn;clear hn;go_enter Tryz.func181,Tryz.ntmps181;go_wp2;go_region;all_goals go_end0
  all_goals (
    obtain⟨h1,h2,h3⟩:=H.out;have hn:=HN.out;subst hn;refine⟨rfl,⟨h1,g,cap,?_,?_⟩,?_⟩
    ·exact(h2.far (show b≠g from fun e=>eQ h3 h2 (by decide) (by rw[e];rfl)) _).drew
    ·refine fy ?_
     have:=mP h3 (st.length*2) (.int .i64 (eH d))
     have e:(fU ((c,p)::st)).set (st.length*2) (.int .i64 (eH d))=fU ((d,p)::st):=by
       rw[gy,gy,List.set_append_right _ _ (by rw[ij];omega)];simp[ij]
     rw[e] at this;exact this
    ·exact⟨((aC _ _).setCell (gM h3).2.2.2.1 _).drew,((KT.refl _ _).setCell (mi h3) (by simp) _ _).drew⟩)
theorem i9 (p:Int) (c:UInt8) (w:World) (h:eI w B b ((c,p)::st) f at_) (hne:st≠[]) :
    Calls Tryz.prog 182 #[.pointer (some ⟨b,0,none⟩)] w (Mo w B b (.tuple #[]) st f at_):=by
  obtain⟨h1,g,cap,h2,h3⟩:=h;obtain⟨x,r,rfl⟩:=List.exists_cons_of_ne_nil hne;have hle:=gM h3;have hcap:=hle.2.2.1;have hc1:r.length+2≤cap:=hle.2.1;unfold maxLen at hcap;have c0:w.cell? ⟨b,0,none⟩=some (.slice (some ⟨g,0,none⟩) (r.length+2) cap):=by rw[h2.cell];rfl
  have f1:=h2.frozen 0;have H:=aa (ac h1 (ac h2 h3));clear h1 h2 h3 hle hne;generalize hn:r.length=n at *;have HN:=aa hn;clear hn;go_enter Tryz.func182,Tryz.ntmps182;go_wp2;go_region;all_goals go_wp2
  all_goals go_end0
  all_goals (
    obtain⟨h1,h2,h3⟩:=H.out;have hn:=HN.out;subst hn;refine⟨rfl,⟨h1,g,cap,?_,?_⟩,?_⟩
    ·have:=(h2.set 0 (.slice (some ⟨g,0,none⟩) (r.length+1) cap)).drew
     simpa using this
    ·refine fy (ff ?_ ?_ _)
     ·rw[gy] at h3;exact ownsRow_pop (ij _) h3
     ·have:=eQ h3 h2 (by decide)
      simpa [Value.ownBlock] using this
    ·exact⟨((aC _ _).setCell h1 _).drew,((KT.refl _ _).setCell h2 (by simp) _ _).drew⟩)
theorem Ke (p q:Int) (c d:UInt8) (w:World) (h:eI w B b ((c,p)::(d,q)::st) f at_) :
    NB 212 #[.pointer (some ⟨b,0,none⟩)] w (.int .i64 (eH d)):=by
  obtain⟨h1,g,cap,h2,h3⟩:=h;have hle:=gM h3;have hcap:=hle.2.2.1;have hc1:st.length+2≤cap:=hle.2.1;unfold maxLen at hcap;have c0:w.cell? ⟨b,0,none⟩=some (.slice (some ⟨g,0,none⟩) (st.length+2) cap):=by rw[h2.cell];rfl
  have c1:w.cell? ⟨g,st.length*2,none⟩=some (.int .i64 (eH d)):=dW h3 _ _ (by
    rw[gy,gy,cO,aX (by rw[ij];omega)];simp[ij])
  clear h1 h2 h3 hle;generalize st.length=n at *;go_enter Tryz.func212,Tryz.ntmps212;go_wp2;go_quiet (fail);go_wp2;go_ret;exact⟨rfl,_,rfl⟩
theorem Tryz.infoFrame:(Tryz.prog.info? 170).map (fun i=>(i.zero,i.size,i.bytes))=some (some (.agg #[.int .i64 0,.int .i64 0]),2,16):=by kernel_rfl
theorem Lh (x y:Value) (t:TypeId):Rd (w.alloc (.cells #[x,y] t)) (w.heap.size+1) 2 (.slice (some ⟨w.heap.size,0,none⟩) 1 1) 1 [x,y]:=fQ w [x,y] t 2 1 rfl (by omega)
theorem Lv (d:UInt8) (w:World) (h:eI w B b st f at_) (hne:st≠[]) (hl:st.length≤1000000) :
    Calls Tryz.prog 214 #[.pointer (some ⟨b,0,none⟩),.int .i64 (eH d)] w (Mo w B b (.tuple #[]) ((d,at_)::st) f at_):=by
  obtain⟨h1,g,cap,h2,h3⟩:=h;have c0:w.cell? ⟨b,0,none⟩=some (.slice (some ⟨g,0,none⟩) st.length cap):=by rw[h2.cell];rfl
  have c2:w.cell? ⟨b,2,none⟩=some (.int .i64 at_):=by rw[h2.cell];rfl
  have f0:=h2.frozen 0;have hbl:=h2.lt;have hle:=gM h3;have hgb:¬g=b:=fun e=>eQ h3 h2 (by decide) (by rw[e];rfl)
  have hbg:¬b=g:=fun e=>hgb e.symm
  have hB:B≤w.heap.size:=by omega
  have H:=aa (ac h1 (ac h2 (ac h3 hle)));clear h1 h2 h3 hle hne;generalize hn:st.length=n at *;have HN:=aa hn;clear hn;obtain⟨i0,hi,hz0,hz1,hz2⟩:=cD Tryz.infoFrame;go_enter Tryz.func214,Tryz.ntmps214;go_wp2
  go_region_law (first
    | (refine dV rfl (.tmp 8) (.tmp 15) 151 rfl B 170 i0 _ 2 16 Tryz.underlying151 hi hz0 hz1 hz2 rfl (by decide) (.slice (some ⟨g,0,none⟩) n cap) n (fU st) (by simp[Act.eval]) (H.out.2.2.1.alloc _) (.slice (some ⟨w.heap.size,0,none⟩) 1 1) 1 (w.heap.size+1) [.int .i64 (eH d),.int .i64 at_] (by simp[Act.eval]) (Rd.drew (Lh w _ _ _)) (by intro u hu;simp at hu;rcases hu with rfl|rfl<;>rfl) (by unfold maxLen;omega) (by omega) (by simp;omega) ?_;intro v1 w1 hown1 hg1 hv1;obtain⟨g',cap',rfl⟩:=ir hown1;have kk:=(H.out.2.1.alloc (.cells #[.int .i64 (eH d),.int .i64 at_] 170)).drew.grown (row:=some g) hg1 (by simpa using hbg);have y0:=kk.cell 0;simp only[aQ,aN] at y0;have y1:=kk.frozen 0;have H1:=aa (ac hown1 (ac hg1 kk));clear hown1 hg1 hv1 kk))
  all_goals go_wp2
  all_goals go_end0
  all_goals (
    obtain⟨h1,h2,h3,hle⟩:=H.out;obtain⟨hown1,hg1,kk⟩:=H1.out;have hn:=HN.out;subst hn;refine⟨rfl,⟨h1,g',cap',?_,?_⟩,?_⟩
    ·simpa using kk.set 0 (.slice (some ⟨g',0,none⟩) (st.length+1) cap')
    ·rw[gy];refine ff hown1 ?_ _
     have:=eQ hown1 kk (by decide)
     exact this
    ·exact⟨Below.setCell ((aY (aC _ _) hB _).drew.grown (row:=some g) hg1 (by simp;omega) (by intro k hk;injection hk with hk;omega)) h1 _,(((KT.refl _ _).alloc _).drew.grown (row:=some g) hg1 (by intro k hk;injection hk with hk;subst hk;obtain⟨cs,t,fr,q1,q2⟩:=lO (fy (h3.alloc _)) g rfl;exact⟨cs,t,fr,q1,by rw[q2];simp⟩)).setCell kk (by simp) _ _⟩)
theorem FY:Calls Tryz.prog 144 #[] w fun e w'=>∃b,e=.returned (.pointer (some ⟨b,0,none⟩))∧eI w' w.heap.size b [(84,0)] true 0∧Below w.heap.size w w':=by
  go_enter Tryz.func144,Tryz.ntmps144;go_wp2;go_returns;refine⟨w.heap.size+1,rfl,⟨cg _,w.heap.size,1,?_,?_⟩,by go_grown⟩
  ·simpa using Bk.new (w.alloc (.cells #[.int .i64 0,.int .i64 0] 170)) 172 #[.slice (some ⟨w.heap.size,0,none⟩) 1 1,.bool true,.int .i64 0]
  ·refine World.ownsRow.alloc ?_ _;exact⟨rfl,.inr ⟨w.heap.size,1,_,rfl,au _,Bk.new _ _ _,au _,by unfold maxLen;omega,rfl,rfl⟩⟩
theorem eI.cells {w:World} {B b:Nat} {st:eU} {f:Bool} {at_:Int} (h:eI w B b st f at_):w.cell? ⟨b,1,none⟩=some (.bool f)∧w.cell? ⟨b,2,none⟩=some (.int .i64 at_)∧w.frozen? ⟨b,1,none⟩=false∧w.frozen? ⟨b,2,none⟩=false∧b<w.heap.size:=by
  obtain⟨_,g,cap,h2,_⟩:=h;exact⟨by rw[h2.cell];rfl,by rw[h2.cell];rfl,h2.frozen _,h2.frozen _,h2.lt⟩
theorem fi {w:World} {B b:Nat} {st:eU} {f:Bool} {at_:Int} (q:BM B w0 w) (c:Calls Tryz.prog fn av w (Mo w B b v st f at_)) (k:∀w',BM B w0 w'→Hid (eI w' B b st f at_)→w'.cell? ⟨b,1,none⟩=some (.bool f)→w'.cell? ⟨b,2,none⟩=some (.int .i64 at_)→w'.frozen? ⟨b,1,none⟩=false→w'.frozen? ⟨b,2,none⟩=false→b<w'.heap.size→Q (.returned v) w'):Calls Tryz.prog fn av w Q:=
  c.mono (by
    rintro e w' ⟨rfl,hm,hb⟩;obtain⟨x0,x1,x2,x3,x4⟩:=hm.cells;exact k w' (q.trans hb) (aa hm) x0 x1 x2 x3 x4)
theorem jH (d:UInt8) (m:Int) (w:World) (hm:m=eH d) (h:eI w B b st f at_) (hne:st≠[]) (hl:st.length≤100000) :
    Calls Tryz.prog 214 #[.pointer (some ⟨b,0,none⟩),.int .i64 m] w (Mo w B b (.tuple #[]) ((d,at_)::st) f at_):=by
  subst hm;exact Lv B b st f at_ d w h hne (by omega)
theorem km (p:Int) (c d:UInt8) (m:Int) (w:World) (hm:m=eH d) (h:eI w B b ((c,p)::st) f at_) :
    Calls Tryz.prog 181 #[.pointer (some ⟨b,0,none⟩),.int .i64 m] w (Mo w B b (.tuple #[]) ((d,p)::st) f at_):=by
  subst hm;exact Hs B b st f at_ p c d w h
theorem Gj (h:eI w B b st f at_) (hne:st≠[]) (hl:st.length≤100000) :
    lC 243 92 w B b (.bool true) ((88,at_)::st) f at_:=by
  obtain⟨x0,x1,x2,x3,x4⟩:=h.cells;have HM:=aa h;clear h;go_enter Tryz.func243,Tryz.ntmps243
  go_wp2_with (first
    | (go_at_call 214;with_reducible refine fi (BM.refl _ _) (jH B b _ _ _ 88 13 _ rfl HM.out hne hl) fun w1 q1 HM1 x0 x1 x2 x3 x4=>?_))
  go_ret;exact er HM1.out q1 rfl rfl
theorem Gk (h:eI w B b st f at_) (hne:st≠[]) (hl:st.length≤100000) :
    lC 243 36 w B b (.bool true) ((76,at_)::st) f at_:=by
  obtain⟨x0,x1,x2,x3,x4⟩:=h.cells;have HM:=aa h;clear h;go_enter Tryz.func243,Tryz.ntmps243
  go_wp2_with (first
    | (go_at_call 214;with_reducible refine fi (BM.refl _ _) (jH B b _ _ _ 76 12 _ rfl HM.out hne hl) fun w1 q1 HM1 x0 x1 x2 x3 x4=>?_))
  go_ret;exact er HM1.out q1 rfl rfl
theorem Gi (h:eI w B b st f at_) (hne:st≠[]) (hl:st.length≤100000) :
    lC 243 96 w B b (.bool true) ((66,at_)::st) f at_:=by
  obtain⟨x0,x1,x2,x3,x4⟩:=h.cells;have HM:=aa h;clear h;go_enter Tryz.func243,Tryz.ntmps243
  go_wp2_with (first
    | (go_at_call 214;with_reducible refine fi (BM.refl _ _) (jH B b _ _ _ 66 6 _ rfl HM.out hne hl) fun w1 q1 HM1 x0 x1 x2 x3 x4=>?_))
  go_ret;exact er HM1.out q1 rfl rfl
theorem iN (h:eI w B b st f at_) (h92:((c.toNat:Int)==92)=false) (h36:((c.toNat:Int)==36)=false) (h96:((c.toNat:Int)==96)=false) :
    lC 243 c w B b (.bool false) st f at_:=by
  obtain⟨x0,x1,x2,x3,x4⟩:=h.cells;have HM:=aa h;clear h;go_enter Tryz.func243,Tryz.ntmps243;go_wp2;go_ret;exact er HM.out (BM.refl _ _) rfl rfl
theorem oK (c d:UInt8) (w:World) (h:eI w B b st f at_) (hne:st≠[]) (hl:st.length≤100000) (hd:gj c=[d]) :
    lC 243 c w B b (.bool true) ((d,at_)::st) f at_:=by
  have hc:(c=92∧d=88)∨(c=36∧d=76)∨(c=96∧d=66):=by
    have:=fg (fun c=>(c==92&&gj c==[88])||(c==36&&gj c==[76])||(c==96&&gj c==[66])||gj c==[]) (by decide +kernel) c
    simp[hd] at this;simpa [or_assoc] using this
  rcases hc with ⟨rfl,rfl⟩|⟨rfl,rfl⟩|⟨rfl,rfl⟩
  ·exact Gj B b st f at_ w h hne hl
  ·exact Gk B b st f at_ w h hne hl
  ·exact Gi B b st f at_ w h hne hl
theorem rU (x c d:UInt8) (f:Bool) (at_:Int) (w:World) (h:eI w B b ((x,p)::r) f at_) (hl:r.length≤99990) (hd:gj c=[d]) :
    fZ 215 m c w B b (.tuple #[]) ((d,at_)::(x,p)::r) f at_:=by
  obtain⟨x0,x1,x2,x3,x4⟩:=h.cells;have HM:=aa h;clear h;go_enter Tryz.func215,Tryz.ntmps215
  go_wp2_with (first
    | (go_at_call 243;refine fi (BM.refl _ _) (oK B b _ _ _ _ _ _ HM.out (by simp) (by simp;omega) hd) fun w1 q1 HM1 x0 x1 x2 x3 x4=>?_))
  all_goals go_returns
  all_goals exact er HM1.out q1 rfl rfl
theorem KQ (x:UInt8) (f:Bool) (at_:Int) (w:World) (h:eI w B b ((x,p)::r) f at_) (hl:r.length≤99990) :
    fZ 215 m 40 w B b (.tuple #[]) ((82,at_)::(x,p)::r) f at_:=by
  obtain⟨x0,x1,x2,x3,x4⟩:=h.cells;have HM:=aa h;clear h;go_enter Tryz.func215,Tryz.ntmps215
  go_wp2_with (first
    | (go_at_call 243;refine fi (BM.refl _ _) (iN B b _ 40 _ _ _ HM.out (by decide) (by decide) (by decide)) fun w1 q1 HM1 x0 x1 x2 x3 x4=>?_)
    | (go_at_call 214;with_reducible refine fi q1 (jH B b _ _ _ 82 10 _ rfl HM1.out (by simp) (by simp at *;omega)) fun w2 q2 HM2 x0 x1 x2 x3 x4=>?_))
  all_goals go_returns
  all_goals exact er HM2.out q2 rfl rfl
theorem Hz (h:eI w B b ((82,p)::r) f at_) (hl:r.length≤99990) (ht:r≠[]) :
    fZ 215 10 41 w B b (.tuple #[]) r f at_:=by
  obtain⟨x0,x1,x2,x3,x4⟩:=h.cells;have HM:=aa h;clear h;go_enter Tryz.func215,Tryz.ntmps215
  go_wp2_with (first
    | (go_at_call 243;refine fi (BM.refl _ _) (iN B b _ 41 _ _ _ HM.out (by decide) (by decide) (by decide)) fun w1 q1 HM1 x0 x1 x2 x3 x4=>?_)
    | (go_at_call 182;with_reducible refine fi q1 (i9 B b _ _ _ _ _ _ HM1.out ht) fun w2 q2 HM2 x0 x1 x2 x3 x4=>?_))
  all_goals go_returns
  all_goals exact er HM2.out q2 rfl rfl
theorem Ia (h:eI w B b ((65,p)::r) f at_) (hl:r.length≤99990) :
    fZ 215 9 41 w B b (.tuple #[]) ((69,p)::r) f at_:=by
  obtain⟨x0,x1,x2,x3,x4⟩:=h.cells;have HM:=aa h;clear h;go_enter Tryz.func215,Tryz.ntmps215
  go_wp2_with (first
    | (go_at_call 243;refine fi (BM.refl _ _) (iN B b _ 41 _ _ _ HM.out (by decide) (by decide) (by decide)) fun w1 q1 HM1 x0 x1 x2 x3 x4=>?_)
    | (go_at_call 181;with_reducible refine fi q1 (km B b _ _ _ _ _ 69 11 _ rfl HM1.out) fun w2 q2 HM2 x0 x1 x2 x3 x4=>?_))
  all_goals go_returns
  all_goals exact er HM2.out q2 rfl rfl
theorem KP (x c:UInt8) (f:Bool) (at_:Int) (w:World) (h:eI w B b ((x,p)::r) f at_) (hl:r.length≤99990) (h92:((c.toNat:Int)==92)=false) (h36:((c.toNat:Int)==36)=false) (h96:((c.toNat:Int)==96)=false) (hc40:((c.toNat:Int)==40)=false) (hc41:((c.toNat:Int)==41)=false) :
    fZ 215 m c w B b (.tuple #[]) ((x,p)::r) f at_:=by
  obtain⟨x0,x1,x2,x3,x4⟩:=h.cells;have HM:=aa h;clear h;go_enter Tryz.func215,Tryz.ntmps215
  go_wp2_with (first
    | (go_at_call 243;refine fi (BM.refl _ _) (iN B b _ _ _ _ _ HM.out h92 h36 h96) fun w1 q1 HM1 x0 x1 x2 x3 x4=>?_))
  all_goals go_returns
  all_goals exact er HM1.out q1 rfl rfl
theorem mM (x c d:UInt8) (f:Bool) (at_:Int) (w:World) (h:eI w B b ((x,p)::r) f at_) (hl:r.length≤99990) (hd:gj c=[d]) :
    fZ 216 m c w B b (.tuple #[]) ((d,at_)::(x,p)::r) f at_:=by
  obtain⟨x0,x1,x2,x3,x4⟩:=h.cells;have HM:=aa h;clear h;go_enter Tryz.func216,Tryz.ntmps216
  go_wp2_with (first
    | (go_at_call 243;refine fi (BM.refl _ _) (oK B b _ _ _ _ _ _ HM.out (by simp) (by simp;omega) hd) fun w1 q1 HM1 x0 x1 x2 x3 x4=>?_))
  all_goals go_returns
  all_goals exact er HM1.out q1 rfl rfl
theorem E6 (h:eI w B b ((68,p)::r) f at_) (hl:r.length≤99990) (ht:r≠[]) :
    fZ 216 5 34 w B b (.tuple #[]) r f at_:=by
  obtain⟨x0,x1,x2,x3,x4⟩:=h.cells;have HM:=aa h;clear h;go_enter Tryz.func216,Tryz.ntmps216
  go_wp2_with (first
    | (go_at_call 243;refine fi (BM.refl _ _) (iN B b _ 34 _ _ _ HM.out (by decide) (by decide) (by decide)) fun w1 q1 HM1 x0 x1 x2 x3 x4=>?_)
    | (go_at_call 182;with_reducible refine fi q1 (i9 B b _ _ _ _ _ _ HM1.out ht) fun w2 q2 HM2 x0 x1 x2 x3 x4=>?_))
  all_goals go_returns
  all_goals exact er HM2.out q2 rfl rfl
theorem B6 (x:UInt8) (f:Bool) (at_:Int) (w:World) (h:eI w B b ((x,p)::r) f at_) (hl:r.length≤99990) (hm5:(m==5)=false) :
    fZ 216 m 34 w B b (.tuple #[]) ((68,at_)::(x,p)::r) f at_:=by
  obtain⟨x0,x1,x2,x3,x4⟩:=h.cells;have HM:=aa h;clear h;go_enter Tryz.func216,Tryz.ntmps216
  go_wp2_with (first
    | (go_at_call 243;refine fi (BM.refl _ _) (iN B b _ 34 _ _ _ HM.out (by decide) (by decide) (by decide)) fun w1 q1 HM1 x0 x1 x2 x3 x4=>?_)
    | (go_at_call 214;with_reducible refine fi q1 (jH B b _ _ _ 68 5 _ rfl HM1.out (by simp) (by simp at *;omega)) fun w2 q2 HM2 x0 x1 x2 x3 x4=>?_))
  all_goals go_returns
  all_goals exact er HM2.out q2 rfl rfl
theorem yo (x:UInt8) (f:Bool) (at_:Int) (w:World) (h:eI w B b ((x,p)::r) f at_) (hl:r.length≤99990) (hm5:(m==5)=false) (hm5n:(m != 5)=true) (ht:r≠[]) :
    fZ 216 m 125 w B b (.tuple #[]) r f at_:=by
  obtain⟨x0,x1,x2,x3,x4⟩:=h.cells;have HM:=aa h;clear h;go_enter Tryz.func216,Tryz.ntmps216
  go_wp2_with (first
    | (go_at_call 243;refine fi (BM.refl _ _) (iN B b _ 125 _ _ _ HM.out (by decide) (by decide) (by decide)) fun w1 q1 HM1 x0 x1 x2 x3 x4=>?_)
    | (go_at_call 182;with_reducible refine fi q1 (i9 B b _ _ _ _ _ _ HM1.out ht) fun w2 q2 HM2 x0 x1 x2 x3 x4=>?_))
  all_goals go_returns
  all_goals exact er HM2.out q2 rfl rfl
theorem E5 (h:eI w B b ((86,p)::r) f at_) (hl:r.length≤99990) :
    fZ 216 7 39 w B b (.tuple #[]) ((83,at_)::(86,p)::r) f at_:=by
  obtain⟨x0,x1,x2,x3,x4⟩:=h.cells;have HM:=aa h;clear h;go_enter Tryz.func216,Tryz.ntmps216
  go_wp2_with (first
    | (go_at_call 243;refine fi (BM.refl _ _) (iN B b _ 39 _ _ _ HM.out (by decide) (by decide) (by decide)) fun w1 q1 HM1 x0 x1 x2 x3 x4=>?_)
    | (go_at_call 214;with_reducible refine fi q1 (jH B b _ _ _ 83 4 _ rfl HM1.out (by simp) (by simp at *;omega)) fun w2 q2 HM2 x0 x1 x2 x3 x4=>?_))
  all_goals go_returns
  all_goals exact er HM2.out q2 rfl rfl
theorem EZ (h:eI w B b ((68,p)::r) f at_) (hl:r.length≤99990) (h92:((c.toNat:Int)==92)=false) (h36:((c.toNat:Int)==36)=false) (h96:((c.toNat:Int)==96)=false) (hc34:((c.toNat:Int)==34)=false) :
    fZ 216 5 c w B b (.tuple #[]) ((68,p)::r) f at_:=by
  obtain⟨x0,x1,x2,x3,x4⟩:=h.cells;have HM:=aa h;clear h;go_enter Tryz.func216,Tryz.ntmps216
  go_wp2_with (first
    | (go_at_call 243;refine fi (BM.refl _ _) (iN B b _ _ _ _ _ HM.out h92 h36 h96) fun w1 q1 HM1 x0 x1 x2 x3 x4=>?_))
  all_goals go_returns
  all_goals exact er HM1.out q1 rfl rfl
theorem EY (h:eI w B b ((73,p)::r) f at_) (hl:r.length≤99990) (h92:((c.toNat:Int)==92)=false) (h36:((c.toNat:Int)==36)=false) (h96:((c.toNat:Int)==96)=false) (hc34:((c.toNat:Int)==34)=false) (hc125:((c.toNat:Int)==125)=false) :
    fZ 216 8 c w B b (.tuple #[]) ((73,p)::r) f at_:=by
  obtain⟨x0,x1,x2,x3,x4⟩:=h.cells;have HM:=aa h;clear h;go_enter Tryz.func216,Tryz.ntmps216
  go_wp2_with (first
    | (go_at_call 243;refine fi (BM.refl _ _) (iN B b _ _ _ _ _ HM.out h92 h36 h96) fun w1 q1 HM1 x0 x1 x2 x3 x4=>?_))
  all_goals go_returns
  all_goals exact er HM1.out q1 rfl rfl
theorem EX (h:eI w B b ((86,p)::r) f at_) (hl:r.length≤99990) (h92:((c.toNat:Int)==92)=false) (h36:((c.toNat:Int)==36)=false) (h96:((c.toNat:Int)==96)=false) (hc34:((c.toNat:Int)==34)=false) (hc125:((c.toNat:Int)==125)=false) (hc39:((c.toNat:Int)==39)=false) :
    fZ 216 7 c w B b (.tuple #[]) ((86,p)::r) f at_:=by
  obtain⟨x0,x1,x2,x3,x4⟩:=h.cells;have HM:=aa h;clear h;go_enter Tryz.func216,Tryz.ntmps216
  go_wp2_with (first
    | (go_at_call 243;refine fi (BM.refl _ _) (iN B b _ _ _ _ _ HM.out h92 h36 h96) fun w1 q1 HM1 x0 x1 x2 x3 x4=>?_))
  all_goals go_returns
  all_goals exact er HM1.out q1 rfl rfl
theorem Ff (x:UInt8) (f:Bool) (at_:Int) (w:World) (h:eI w B b ((x,p)::r) f at_) (hl:r.length≤99990) :
    fZ 213 m 92 w B b (.tuple #[]) ((88,at_)::(x,p)::r) f at_:=by
  obtain⟨x0,x1,x2,x3,x4⟩:=h.cells;have HM:=aa h;clear h;go_enter Tryz.func213,Tryz.ntmps213
  go_wp2_with (first
    | (go_at_call 214;with_reducible refine fi (BM.refl _ _) (jH B b _ _ _ 88 13 _ rfl HM.out (by simp) (by simp at *;omega)) fun w1 q1 HM1 x0 x1 x2 x3 x4=>?_))
  all_goals go_returns
  all_goals first
    | exact er HM1.out q1 rfl rfl
    | exact er (HM1.out.setFresh _) (BM.setCell q1 HM1.out _) rfl (by first|rfl|decide|simp)
theorem Fh (x:UInt8) (f:Bool) (at_:Int) (w:World) (h:eI w B b ((x,p)::r) f at_) (hl:r.length≤99990) :
    fZ 213 m 39 w B b (.tuple #[]) ((83,at_)::(x,p)::r) false at_:=by
  obtain⟨x0,x1,x2,x3,x4⟩:=h.cells;have HM:=aa h;clear h;go_enter Tryz.func213,Tryz.ntmps213
  go_wp2_with (first
    | (go_at_call 214;with_reducible refine fi (BM.refl _ _) (jH B b _ _ _ 83 4 _ rfl HM.out (by simp) (by simp at *;omega)) fun w1 q1 HM1 x0 x1 x2 x3 x4=>?_)
    | (go_at_call 226;refine(jr 39 _).mono ?_;rintro e w' ⟨rfl,rfl⟩))
  all_goals go_returns
  all_goals first
    | exact er HM1.out q1 rfl rfl
    | exact er (HM1.out.setFresh _) (BM.setCell q1 HM1.out _) rfl (by first|rfl|decide|simp)
theorem Fj (x:UInt8) (f:Bool) (at_:Int) (w:World) (h:eI w B b ((x,p)::r) f at_) (hl:r.length≤99990) :
    fZ 213 m 34 w B b (.tuple #[]) ((68,at_)::(x,p)::r) false at_:=by
  obtain⟨x0,x1,x2,x3,x4⟩:=h.cells;have HM:=aa h;clear h;go_enter Tryz.func213,Tryz.ntmps213
  go_wp2_with (first
    | (go_at_call 214;with_reducible refine fi (BM.refl _ _) (jH B b _ _ _ 68 5 _ rfl HM.out (by simp) (by simp at *;omega)) fun w1 q1 HM1 x0 x1 x2 x3 x4=>?_)
    | (go_at_call 226;refine(jr 34 _).mono ?_;rintro e w' ⟨rfl,rfl⟩))
  all_goals go_returns
  all_goals first
    | exact er HM1.out q1 rfl rfl
    | exact er (HM1.out.setFresh _) (BM.setCell q1 HM1.out _) rfl (by first|rfl|decide|simp)
theorem Fi (x:UInt8) (f:Bool) (at_:Int) (w:World) (h:eI w B b ((x,p)::r) f at_) (hl:r.length≤99990) :
    fZ 213 m 36 w B b (.tuple #[]) ((76,at_)::(x,p)::r) false at_:=by
  obtain⟨x0,x1,x2,x3,x4⟩:=h.cells;have HM:=aa h;clear h;go_enter Tryz.func213,Tryz.ntmps213
  go_wp2_with (first
    | (go_at_call 243;refine fi (BM.refl _ _) (oK B b _ _ _ 36 76 _ HM.out (by simp) (by simp;omega) (by decide)) fun w1 q1 HM1 x0 x1 x2 x3 x4=>?_)
    | (go_at_call 226;refine(jr 36 _).mono ?_;rintro e w' ⟨rfl,rfl⟩))
  all_goals go_returns
  all_goals first
    | exact er HM1.out q1 rfl rfl
    | exact er (HM1.out.setFresh _) (BM.setCell q1 HM1.out _) rfl (by first|rfl|decide|simp)
theorem Fe (x:UInt8) (f:Bool) (at_:Int) (w:World) (h:eI w B b ((x,p)::r) f at_) (hl:r.length≤99990) :
    fZ 213 m 96 w B b (.tuple #[]) ((66,at_)::(x,p)::r) false at_:=by
  obtain⟨x0,x1,x2,x3,x4⟩:=h.cells;have HM:=aa h;clear h;go_enter Tryz.func213,Tryz.ntmps213
  go_wp2_with (first
    | (go_at_call 243;refine fi (BM.refl _ _) (oK B b _ _ _ 96 66 _ HM.out (by simp) (by simp;omega) (by decide)) fun w1 q1 HM1 x0 x1 x2 x3 x4=>?_)
    | (go_at_call 226;refine(jr 96 _).mono ?_;rintro e w' ⟨rfl,rfl⟩))
  all_goals go_returns
  all_goals first
    | exact er HM1.out q1 rfl rfl
    | exact er (HM1.out.setFresh _) (BM.setCell q1 HM1.out _) rfl (by first|rfl|decide|simp)
theorem AG (x:UInt8) (f:Bool) (at_:Int) (w:World) (h:eI w B b ((x,p)::r) true at_) (hl:r.length≤99990) :
    fZ 213 m 35 w B b (.tuple #[]) ((35,at_)::(x,p)::r) true at_:=by
  obtain⟨x0,x1,x2,x3,x4⟩:=h.cells;have HM:=aa h;clear h;go_enter Tryz.func213,Tryz.ntmps213
  go_wp2_with (first
    | (go_at_call 214;with_reducible refine fi (BM.refl _ _) (jH B b _ _ _ 35 14 _ rfl HM.out (by simp) (by simp at *;omega)) fun w1 q1 HM1 x0 x1 x2 x3 x4=>?_))
  all_goals go_returns
  all_goals first
    | exact er HM1.out q1 rfl rfl
    | exact er (HM1.out.setFresh _) (BM.setCell q1 HM1.out _) rfl (by first|rfl|decide|simp)
theorem AH (x:UInt8) (f:Bool) (at_:Int) (w:World) (h:eI w B b ((x,p)::r) false at_) (hl:r.length≤99990) :
    fZ 213 m 35 w B b (.tuple #[]) ((x,p)::r) false at_:=by
  obtain⟨x0,x1,x2,x3,x4⟩:=h.cells;have HM:=aa h;clear h;go_enter Tryz.func213,Tryz.ntmps213
  go_wp2_with (first
    | (go_at_call 226;refine(jr 35 _).mono ?_;rintro e w' ⟨rfl,rfl⟩))
  all_goals go_returns
  all_goals first
    | exact er HM.out (BM.refl _ _) rfl rfl
    | exact er (HM.out.setFresh _) (BM.setCell (BM.refl _ _) HM.out _) rfl (by first|rfl|decide|simp)
theorem Ln (h:eI w B b ((x,p)::r) f at_) (hl:r.length≤99990) :
    fZ 213 0 40 w B b (.tuple #[]) ((x,p)::r) true at_:=by
  obtain⟨x0,x1,x2,x3,x4⟩:=h.cells;have HM:=aa h;clear h;go_enter Tryz.func213,Tryz.ntmps213
  go_wp2_with (first
    | (go_at_call 226;refine(jr 40 _).mono ?_;rintro e w' ⟨rfl,rfl⟩))
  all_goals go_returns
  all_goals first
    | exact er HM.out (BM.refl _ _) rfl rfl
    | exact er (HM.out.setFresh _) (BM.setCell (BM.refl _ _) HM.out _) rfl (by first|rfl|decide|simp)
theorem Jb (h:eI w B b ((x,p)::r) f at_) (hl:r.length≤99990) :
    fZ 213 1 40 w B b (.tuple #[]) ((80,at_)::(x,p)::r) true at_:=by
  obtain⟨x0,x1,x2,x3,x4⟩:=h.cells;have HM:=aa h;clear h;go_enter Tryz.func213,Tryz.ntmps213
  go_wp2_with (first
    | (go_at_call 214;with_reducible refine fi (BM.refl _ _) (jH B b _ _ _ 80 2 _ rfl HM.out (by simp) (by simp at *;omega)) fun w1 q1 HM1 x0 x1 x2 x3 x4=>?_)
    | (go_at_call 226;refine(jr 40 _).mono ?_;rintro e w' ⟨rfl,rfl⟩))
  all_goals go_returns
  all_goals first
    | exact er HM1.out q1 rfl rfl
    | exact er (HM1.out.setFresh _) (BM.setCell q1 HM1.out _) rfl (by first|rfl|decide|simp)
theorem Ja (h:eI w B b ((x,p)::r) f at_) (hl:r.length≤99990) :
    fZ 213 2 40 w B b (.tuple #[]) ((80,at_)::(x,p)::r) true at_:=by
  obtain⟨x0,x1,x2,x3,x4⟩:=h.cells;have HM:=aa h;clear h;go_enter Tryz.func213,Tryz.ntmps213
  go_wp2_with (first
    | (go_at_call 214;with_reducible refine fi (BM.refl _ _) (jH B b _ _ _ 80 2 _ rfl HM.out (by simp) (by simp at *;omega)) fun w1 q1 HM1 x0 x1 x2 x3 x4=>?_)
    | (go_at_call 226;refine(jr 40 _).mono ?_;rintro e w' ⟨rfl,rfl⟩))
  all_goals go_returns
  all_goals first
    | exact er HM1.out q1 rfl rfl
    | exact er (HM1.out.setFresh _) (BM.setCell q1 HM1.out _) rfl (by first|rfl|decide|simp)
theorem Lm (h:eI w B b ((x,p)::r) f at_) (hl:r.length≤99990) :
    fZ 213 0 41 w B b (.tuple #[]) ((x,p)::r) true at_:=by
  obtain⟨x0,x1,x2,x3,x4⟩:=h.cells;have HM:=aa h;clear h;go_enter Tryz.func213,Tryz.ntmps213;go_wp2_with fail;all_goals go_returns
  all_goals first
    | exact er HM.out (BM.refl _ _) rfl rfl
    | exact er (HM.out.setFresh _) (BM.setCell (BM.refl _ _) HM.out _) rfl (by first|rfl|decide|simp)
theorem I9 (h:eI w B b ((x,p)::r) f at_) (hl:r.length≤99990) (ht:r≠[]) :
    fZ 213 1 41 w B b (.tuple #[]) r false at_:=by
  obtain⟨x0,x1,x2,x3,x4⟩:=h.cells;have HM:=aa h;clear h;go_enter Tryz.func213,Tryz.ntmps213
  go_wp2_with (first
    | (go_at_call 182;with_reducible refine fi (BM.refl _ _) (i9 B b _ _ _ _ _ _ HM.out ht) fun w1 q1 HM1 x0 x1 x2 x3 x4=>?_))
  all_goals go_returns
  all_goals first
    | exact er HM1.out q1 rfl rfl
    | exact er (HM1.out.setFresh _) (BM.setCell q1 HM1.out _) rfl (by first|rfl|decide|simp)
theorem I8 (h:eI w B b ((x,p)::r) f at_) (hl:r.length≤99990) (ht:r≠[]) :
    fZ 213 2 41 w B b (.tuple #[]) r true at_:=by
  obtain⟨x0,x1,x2,x3,x4⟩:=h.cells;have HM:=aa h;clear h;go_enter Tryz.func213,Tryz.ntmps213
  go_wp2_with (first
    | (go_at_call 182;with_reducible refine fi (BM.refl _ _) (i9 B b _ _ _ _ _ _ HM.out ht) fun w1 q1 HM1 x0 x1 x2 x3 x4=>?_))
  all_goals go_returns
  all_goals first
    | exact er HM1.out q1 rfl rfl
    | exact er (HM1.out.setFresh _) (BM.setCell q1 HM1.out _) rfl (by first|rfl|decide|simp)
theorem Fc (x c:UInt8) (f:Bool) (at_:Int) (w:World) (h:eI w B b ((x,p)::r) f at_) (hl:r.length≤99990) (hc92:((c.toNat:Int)==92)=false) (hc39:((c.toNat:Int)==39)=false) (hc34:((c.toNat:Int)==34)=false) (hc96:((c.toNat:Int)==96)=false) (hc36:((c.toNat:Int)==36)=false) (hc35:((c.toNat:Int)==35)=false) (hc40:((c.toNat:Int)==40)=false) (hc41:((c.toNat:Int)==41)=false) :
    fZ 213 m c w B b (.tuple #[]) ((x,p)::r) (gR c) at_:=by
  obtain⟨x0,x1,x2,x3,x4⟩:=h.cells;have HM:=aa h;clear h;go_enter Tryz.func213,Tryz.ntmps213
  go_wp2_with (first
    | (go_at_call 226;refine(jr c _).mono ?_;rintro e w' ⟨rfl,rfl⟩))
  all_goals go_returns
  all_goals first
    | exact er HM.out (BM.refl _ _) rfl rfl
    | exact er (HM.out.setFresh _) (BM.setCell (BM.refl _ _) HM.out _) rfl (by first|rfl|decide|simp)
theorem bf (b v:UInt8) (h:b≠v):((b.toNat:Int)==(v.toNat:Int))=false:=by
  rw[az];intro e;exact h (dc.1 (by omega))
theorem nn {b v:UInt8} (h:b≠v):b.toNat≠v.toNat:=fun e=>h (dc.1 e)
theorem Hy (r:eU) (p:Int) (b:UInt8) (f:Bool) (at_:Int) (w:World) (h:eI w B b0 ((65,p)::r) f at_) (hl:r.length≤99990) (ht:r≠[]) :
    fZ 215 9 b w B b0 (.tuple #[]) (dL ((65,p)::r) f 65 b at_).1 (dL ((65,p)::r) f 65 b at_).2 at_:=by
  rcases aF (b=92) with rfl|hb92
  ·have e:dL ((65,p)::r) f 65 92 at_=(((88,at_)::(65,p)::r),f):=by simp[dL,dU]
   rw[e];exact rU B b0 r p 9 65 92 88 f at_ w h hl (by decide)
  have n92:b.toNat≠92:=nn hb92;rcases aF (b=36) with rfl|hb36
  ·have e:dL ((65,p)::r) f 65 36 at_=(((76,at_)::(65,p)::r),f):=by simp[dL,dU]
   rw[e];exact rU B b0 r p 9 65 36 76 f at_ w h hl (by decide)
  have n36:b.toNat≠36:=nn hb36;rcases aF (b=96) with rfl|hb96
  ·have e:dL ((65,p)::r) f 65 96 at_=(((66,at_)::(65,p)::r),f):=by simp[dL,dU]
   rw[e];exact rU B b0 r p 9 65 96 66 f at_ w h hl (by decide)
  have n96:b.toNat≠96:=nn hb96;rcases aF (b=40) with rfl|hb40
  ·have e:dL ((65,p)::r) f 65 40 at_=(((82,at_)::(65,p)::r),f):=by simp[dL,dU]
   rw[e];exact KQ B b0 r p 9 65 f at_ w h hl
  have n40:b.toNat≠40:=nn hb40;rcases aF (b=41) with rfl|hb41
  ·have e:dL ((65,p)::r) f 65 41 at_=(((69,p)::r),f):=by simp[dL,dU]
   rw[e];exact Ia B b0 r p f at_ w h hl
  have n41:b.toNat≠41:=nn hb41;have e:dL ((65,p)::r) f 65 b at_=(((65,p)::r),f):=by simp[dL,dU,n92,n36,n96,n40,n41]
  rw[e];exact KP B b0 r p 9 65 b f at_ w h hl (bf b 92 hb92) (bf b 36 hb36) (bf b 96 hb96) (bf b 40 hb40) (bf b 41 hb41)
theorem Hw (r:eU) (p:Int) (b:UInt8) (f:Bool) (at_:Int) (w:World) (h:eI w B b0 ((82,p)::r) f at_) (hl:r.length≤99990) (ht:r≠[]) :
    fZ 215 10 b w B b0 (.tuple #[]) (dL ((82,p)::r) f 82 b at_).1 (dL ((82,p)::r) f 82 b at_).2 at_:=by
  rcases aF (b=92) with rfl|hb92
  ·have e:dL ((82,p)::r) f 82 92 at_=(((88,at_)::(82,p)::r),f):=by simp[dL,dU]
   rw[e];exact rU B b0 r p 10 82 92 88 f at_ w h hl (by decide)
  have n92:b.toNat≠92:=nn hb92;rcases aF (b=36) with rfl|hb36
  ·have e:dL ((82,p)::r) f 82 36 at_=(((76,at_)::(82,p)::r),f):=by simp[dL,dU]
   rw[e];exact rU B b0 r p 10 82 36 76 f at_ w h hl (by decide)
  have n36:b.toNat≠36:=nn hb36;rcases aF (b=96) with rfl|hb96
  ·have e:dL ((82,p)::r) f 82 96 at_=(((66,at_)::(82,p)::r),f):=by simp[dL,dU]
   rw[e];exact rU B b0 r p 10 82 96 66 f at_ w h hl (by decide)
  have n96:b.toNat≠96:=nn hb96;rcases aF (b=40) with rfl|hb40
  ·have e:dL ((82,p)::r) f 82 40 at_=(((82,at_)::(82,p)::r),f):=by simp[dL,dU]
   rw[e];exact KQ B b0 r p 10 82 f at_ w h hl
  have n40:b.toNat≠40:=nn hb40;rcases aF (b=41) with rfl|hb41
  ·have e:dL ((82,p)::r) f 82 41 at_=(r,f):=by simp[dL,dU]
   rw[e];exact Hz B b0 r p f at_ w h hl ht
  have n41:b.toNat≠41:=nn hb41;have e:dL ((82,p)::r) f 82 b at_=(((82,p)::r),f):=by simp[dL,dU,n92,n36,n96,n40,n41]
  rw[e];exact KP B b0 r p 10 82 b f at_ w h hl (bf b 92 hb92) (bf b 36 hb36) (bf b 96 hb96) (bf b 40 hb40) (bf b 41 hb41)
theorem Dc (r:eU) (p:Int) (b:UInt8) (f:Bool) (at_:Int) (w:World) (h:eI w B b0 ((68,p)::r) f at_) (hl:r.length≤99990) (ht:r≠[]) :
    fZ 216 5 b w B b0 (.tuple #[]) (dL ((68,p)::r) f 68 b at_).1 (dL ((68,p)::r) f 68 b at_).2 at_:=by
  rcases aF (b=92) with rfl|hb92
  ·have e:dL ((68,p)::r) f 68 92 at_=(((88,at_)::(68,p)::r),f):=by simp[dL,dU]
   rw[e];exact mM B b0 r p 5 68 92 88 f at_ w h hl (by decide)
  have n92:b.toNat≠92:=nn hb92;rcases aF (b=36) with rfl|hb36
  ·have e:dL ((68,p)::r) f 68 36 at_=(((76,at_)::(68,p)::r),f):=by simp[dL,dU]
   rw[e];exact mM B b0 r p 5 68 36 76 f at_ w h hl (by decide)
  have n36:b.toNat≠36:=nn hb36;rcases aF (b=96) with rfl|hb96
  ·have e:dL ((68,p)::r) f 68 96 at_=(((66,at_)::(68,p)::r),f):=by simp[dL,dU]
   rw[e];exact mM B b0 r p 5 68 96 66 f at_ w h hl (by decide)
  have n96:b.toNat≠96:=nn hb96;rcases aF (b=34) with rfl|hb34
  ·have e:dL ((68,p)::r) f 68 34 at_=(r,f):=by simp[dL,dU]
   rw[e];exact E6 B b0 r p f at_ w h hl ht
  have n34:b.toNat≠34:=nn hb34;have e:dL ((68,p)::r) f 68 b at_=(((68,p)::r),f):=by simp[dL,dU,n92,n36,n96,n34]
  rw[e];exact EZ B b0 r p b f at_ w h hl (bf b 92 hb92) (bf b 36 hb36) (bf b 96 hb96) (bf b 34 hb34)
theorem Db (r:eU) (p:Int) (b:UInt8) (f:Bool) (at_:Int) (w:World) (h:eI w B b0 ((73,p)::r) f at_) (hl:r.length≤99990) (ht:r≠[]) :
    fZ 216 8 b w B b0 (.tuple #[]) (dL ((73,p)::r) f 73 b at_).1 (dL ((73,p)::r) f 73 b at_).2 at_:=by
  rcases aF (b=92) with rfl|hb92
  ·have e:dL ((73,p)::r) f 73 92 at_=(((88,at_)::(73,p)::r),f):=by simp[dL,dU]
   rw[e];exact mM B b0 r p 8 73 92 88 f at_ w h hl (by decide)
  have n92:b.toNat≠92:=nn hb92;rcases aF (b=36) with rfl|hb36
  ·have e:dL ((73,p)::r) f 73 36 at_=(((76,at_)::(73,p)::r),f):=by simp[dL,dU]
   rw[e];exact mM B b0 r p 8 73 36 76 f at_ w h hl (by decide)
  have n36:b.toNat≠36:=nn hb36;rcases aF (b=96) with rfl|hb96
  ·have e:dL ((73,p)::r) f 73 96 at_=(((66,at_)::(73,p)::r),f):=by simp[dL,dU]
   rw[e];exact mM B b0 r p 8 73 96 66 f at_ w h hl (by decide)
  have n96:b.toNat≠96:=nn hb96;rcases aF (b=34) with rfl|hb34
  ·have e:dL ((73,p)::r) f 73 34 at_=(((68,at_)::(73,p)::r),f):=by simp[dL,dU]
   rw[e];exact B6 B b0 r p 8 73 f at_ w h hl rfl
  have n34:b.toNat≠34:=nn hb34;rcases aF (b=125) with rfl|hb125
  ·have e:dL ((73,p)::r) f 73 125 at_=(r,f):=by simp[dL,dU]
   rw[e];exact yo B b0 r p 8 73 f at_ w h hl rfl rfl ht
  have n125:b.toNat≠125:=nn hb125;have e:dL ((73,p)::r) f 73 b at_=(((73,p)::r),f):=by simp[dL,dU,n92,n36,n96,n34,n125]
  rw[e];exact EY B b0 r p b f at_ w h hl (bf b 92 hb92) (bf b 36 hb36) (bf b 96 hb96) (bf b 34 hb34) (bf b 125 hb125)
theorem Da (r:eU) (p:Int) (b:UInt8) (f:Bool) (at_:Int) (w:World) (h:eI w B b0 ((86,p)::r) f at_) (hl:r.length≤99990) (ht:r≠[]) :
    fZ 216 7 b w B b0 (.tuple #[]) (dL ((86,p)::r) f 86 b at_).1 (dL ((86,p)::r) f 86 b at_).2 at_:=by
  rcases aF (b=92) with rfl|hb92
  ·have e:dL ((86,p)::r) f 86 92 at_=(((88,at_)::(86,p)::r),f):=by simp[dL,dU]
   rw[e];exact mM B b0 r p 7 86 92 88 f at_ w h hl (by decide)
  have n92:b.toNat≠92:=nn hb92;rcases aF (b=36) with rfl|hb36
  ·have e:dL ((86,p)::r) f 86 36 at_=(((76,at_)::(86,p)::r),f):=by simp[dL,dU]
   rw[e];exact mM B b0 r p 7 86 36 76 f at_ w h hl (by decide)
  have n36:b.toNat≠36:=nn hb36;rcases aF (b=96) with rfl|hb96
  ·have e:dL ((86,p)::r) f 86 96 at_=(((66,at_)::(86,p)::r),f):=by simp[dL,dU]
   rw[e];exact mM B b0 r p 7 86 96 66 f at_ w h hl (by decide)
  have n96:b.toNat≠96:=nn hb96;rcases aF (b=34) with rfl|hb34
  ·have e:dL ((86,p)::r) f 86 34 at_=(((68,at_)::(86,p)::r),f):=by simp[dL,dU]
   rw[e];exact B6 B b0 r p 7 86 f at_ w h hl rfl
  have n34:b.toNat≠34:=nn hb34;rcases aF (b=125) with rfl|hb125
  ·have e:dL ((86,p)::r) f 86 125 at_=(r,f):=by simp[dL,dU]
   rw[e];exact yo B b0 r p 7 86 f at_ w h hl rfl rfl ht
  have n125:b.toNat≠125:=nn hb125;rcases aF (b=39) with rfl|hb39
  ·have e:dL ((86,p)::r) f 86 39 at_=(((83,at_)::(86,p)::r),f):=by simp[dL,dU]
   rw[e];exact E5 B b0 r p f at_ w h hl
  have n39:b.toNat≠39:=nn hb39;have e:dL ((86,p)::r) f 86 b at_=(((86,p)::r),f):=by simp[dL,dU,n92,n36,n96,n34,n125,n39]
  rw[e];exact EX B b0 r p b f at_ w h hl (bf b 92 hb92) (bf b 36 hb36) (bf b 96 hb96) (bf b 34 hb34) (bf b 125 hb125) (bf b 39 hb39)
theorem AC (r:eU) (p:Int) (b:UInt8) (f:Bool) (at_:Int) (w:World) (h:eI w B b0 ((84,p)::r) f at_) (hl:r.length≤99990) :
    fZ 213 0 b w B b0 (.tuple #[]) (dL ((84,p)::r) f 84 b at_).1 (dL ((84,p)::r) f 84 b at_).2 at_:=by
  rcases aF (b=92) with rfl|hb92
  ·have e:dL ((84,p)::r) f 84 92 at_=(((88,at_)::(84,p)::r),f):=by simp[dL,dU]
   rw[e];exact Ff B b0 r p 0 84 f at_ w h hl
  have n92:b.toNat≠92:=nn hb92;rcases aF (b=39) with rfl|hb39
  ·have e:dL ((84,p)::r) f 84 39 at_=(((83,at_)::(84,p)::r),false):=by simp[dL,dU]
   rw[e];exact Fh B b0 r p 0 84 f at_ w h hl
  have n39:b.toNat≠39:=nn hb39;rcases aF (b=34) with rfl|hb34
  ·have e:dL ((84,p)::r) f 84 34 at_=(((68,at_)::(84,p)::r),false):=by simp[dL,dU]
   rw[e];exact Fj B b0 r p 0 84 f at_ w h hl
  have n34:b.toNat≠34:=nn hb34;rcases aF (b=96) with rfl|hb96
  ·have e:dL ((84,p)::r) f 84 96 at_=(((66,at_)::(84,p)::r),false):=by simp[dL,dU]
   rw[e];exact Fe B b0 r p 0 84 f at_ w h hl
  have n96:b.toNat≠96:=nn hb96;rcases aF (b=36) with rfl|hb36
  ·have e:dL ((84,p)::r) f 84 36 at_=(((76,at_)::(84,p)::r),false):=by simp[dL,dU]
   rw[e];exact Fi B b0 r p 0 84 f at_ w h hl
  have n36:b.toNat≠36:=nn hb36;rcases aF (b=40) with rfl|hb40
  ·have e:dL ((84,p)::r) f 84 40 at_=(((84,p)::r),true):=by simp[dL,dU]
   rw[e];exact Ln B b0 r p 84 f at_ w h hl
  have n40:b.toNat≠40:=nn hb40;rcases aF (b=41) with rfl|hb41
  ·have e:dL ((84,p)::r) f 84 41 at_=(((84,p)::r),true):=by simp[dL,dU]
   rw[e];exact Lm B b0 r p 84 f at_ w h hl
  have n41:b.toNat≠41:=nn hb41;rcases aF (b=35) with rfl|hb35
  ·cases f
   ·have e:dL ((84,p)::r) false 84 35 at_=(((84,p)::r),false):=by simp[dL,dU,gR,eT]
    rw[e];exact AH B b0 r p 0 84 false at_ w h hl
   ·have e:dL ((84,p)::r) true 84 35 at_=(((35,at_)::(84,p)::r),true):=by simp[dL,dU]
    rw[e];exact AG B b0 r p 0 84 true at_ w h hl
  have n35:b.toNat≠35:=nn hb35;have e:dL ((84,p)::r) f 84 b at_=(((84,p)::r),gR b):=by simp[dL,dU,n92,n39,n34,n96,n36,n40,n41,n35]
  rw[e];exact Fc B b0 r p 0 84 b f at_ w h hl (bf b 92 hb92) (bf b 39 hb39) (bf b 34 hb34) (bf b 96 hb96) (bf b 36 hb36) (bf b 35 hb35) (bf b 40 hb40) (bf b 41 hb41)
theorem AE (r:eU) (p:Int) (b:UInt8) (f:Bool) (at_:Int) (w:World) (h:eI w B b0 ((67,p)::r) f at_) (hl:r.length≤99990) (ht:r≠[]) :
    fZ 213 1 b w B b0 (.tuple #[]) (dL ((67,p)::r) f 67 b at_).1 (dL ((67,p)::r) f 67 b at_).2 at_:=by
  rcases aF (b=92) with rfl|hb92
  ·have e:dL ((67,p)::r) f 67 92 at_=(((88,at_)::(67,p)::r),f):=by simp[dL,dU]
   rw[e];exact Ff B b0 r p 1 67 f at_ w h hl
  have n92:b.toNat≠92:=nn hb92;rcases aF (b=39) with rfl|hb39
  ·have e:dL ((67,p)::r) f 67 39 at_=(((83,at_)::(67,p)::r),false):=by simp[dL,dU]
   rw[e];exact Fh B b0 r p 1 67 f at_ w h hl
  have n39:b.toNat≠39:=nn hb39;rcases aF (b=34) with rfl|hb34
  ·have e:dL ((67,p)::r) f 67 34 at_=(((68,at_)::(67,p)::r),false):=by simp[dL,dU]
   rw[e];exact Fj B b0 r p 1 67 f at_ w h hl
  have n34:b.toNat≠34:=nn hb34;rcases aF (b=96) with rfl|hb96
  ·have e:dL ((67,p)::r) f 67 96 at_=(((66,at_)::(67,p)::r),false):=by simp[dL,dU]
   rw[e];exact Fe B b0 r p 1 67 f at_ w h hl
  have n96:b.toNat≠96:=nn hb96;rcases aF (b=36) with rfl|hb36
  ·have e:dL ((67,p)::r) f 67 36 at_=(((76,at_)::(67,p)::r),false):=by simp[dL,dU]
   rw[e];exact Fi B b0 r p 1 67 f at_ w h hl
  have n36:b.toNat≠36:=nn hb36;rcases aF (b=40) with rfl|hb40
  ·have e:dL ((67,p)::r) f 67 40 at_=(((80,at_)::(67,p)::r),true):=by simp[dL,dU]
   rw[e];exact Jb B b0 r p 67 f at_ w h hl
  have n40:b.toNat≠40:=nn hb40;rcases aF (b=41) with rfl|hb41
  ·have e:dL ((67,p)::r) f 67 41 at_=(r,false):=by simp[dL,dU]
   rw[e];exact I9 B b0 r p 67 f at_ w h hl ht
  have n41:b.toNat≠41:=nn hb41;rcases aF (b=35) with rfl|hb35
  ·cases f
   ·have e:dL ((67,p)::r) false 67 35 at_=(((67,p)::r),false):=by simp[dL,dU,gR,eT]
    rw[e];exact AH B b0 r p 1 67 false at_ w h hl
   ·have e:dL ((67,p)::r) true 67 35 at_=(((35,at_)::(67,p)::r),true):=by simp[dL,dU]
    rw[e];exact AG B b0 r p 1 67 true at_ w h hl
  have n35:b.toNat≠35:=nn hb35;have e:dL ((67,p)::r) f 67 b at_=(((67,p)::r),gR b):=by simp[dL,dU,n92,n39,n34,n96,n36,n40,n41,n35]
  rw[e];exact Fc B b0 r p 1 67 b f at_ w h hl (bf b 92 hb92) (bf b 39 hb39) (bf b 34 hb34) (bf b 96 hb96) (bf b 36 hb36) (bf b 35 hb35) (bf b 40 hb40) (bf b 41 hb41)
theorem AD (r:eU) (p:Int) (b:UInt8) (f:Bool) (at_:Int) (w:World) (h:eI w B b0 ((80,p)::r) f at_) (hl:r.length≤99990) (ht:r≠[]) :
    fZ 213 2 b w B b0 (.tuple #[]) (dL ((80,p)::r) f 80 b at_).1 (dL ((80,p)::r) f 80 b at_).2 at_:=by
  rcases aF (b=92) with rfl|hb92
  ·have e:dL ((80,p)::r) f 80 92 at_=(((88,at_)::(80,p)::r),f):=by simp[dL,dU]
   rw[e];exact Ff B b0 r p 2 80 f at_ w h hl
  have n92:b.toNat≠92:=nn hb92;rcases aF (b=39) with rfl|hb39
  ·have e:dL ((80,p)::r) f 80 39 at_=(((83,at_)::(80,p)::r),false):=by simp[dL,dU]
   rw[e];exact Fh B b0 r p 2 80 f at_ w h hl
  have n39:b.toNat≠39:=nn hb39;rcases aF (b=34) with rfl|hb34
  ·have e:dL ((80,p)::r) f 80 34 at_=(((68,at_)::(80,p)::r),false):=by simp[dL,dU]
   rw[e];exact Fj B b0 r p 2 80 f at_ w h hl
  have n34:b.toNat≠34:=nn hb34;rcases aF (b=96) with rfl|hb96
  ·have e:dL ((80,p)::r) f 80 96 at_=(((66,at_)::(80,p)::r),false):=by simp[dL,dU]
   rw[e];exact Fe B b0 r p 2 80 f at_ w h hl
  have n96:b.toNat≠96:=nn hb96;rcases aF (b=36) with rfl|hb36
  ·have e:dL ((80,p)::r) f 80 36 at_=(((76,at_)::(80,p)::r),false):=by simp[dL,dU]
   rw[e];exact Fi B b0 r p 2 80 f at_ w h hl
  have n36:b.toNat≠36:=nn hb36;rcases aF (b=40) with rfl|hb40
  ·have e:dL ((80,p)::r) f 80 40 at_=(((80,at_)::(80,p)::r),true):=by simp[dL,dU]
   rw[e];exact Ja B b0 r p 80 f at_ w h hl
  have n40:b.toNat≠40:=nn hb40;rcases aF (b=41) with rfl|hb41
  ·have e:dL ((80,p)::r) f 80 41 at_=(r,true):=by simp[dL,dU]
   rw[e];exact I8 B b0 r p 80 f at_ w h hl ht
  have n41:b.toNat≠41:=nn hb41;rcases aF (b=35) with rfl|hb35
  ·cases f
   ·have e:dL ((80,p)::r) false 80 35 at_=(((80,p)::r),false):=by simp[dL,dU,gR,eT]
    rw[e];exact AH B b0 r p 2 80 false at_ w h hl
   ·have e:dL ((80,p)::r) true 80 35 at_=(((35,at_)::(80,p)::r),true):=by simp[dL,dU]
    rw[e];exact AG B b0 r p 2 80 true at_ w h hl
  have n35:b.toNat≠35:=nn hb35;have e:dL ((80,p)::r) f 80 b at_=(((80,p)::r),gR b):=by simp[dL,dU,n92,n39,n34,n96,n36,n40,n41,n35]
  rw[e];exact Fc B b0 r p 2 80 b f at_ w h hl (bf b 92 hb92) (bf b 39 hb39) (bf b 34 hb34) (bf b 96 hb96) (bf b 36 hb36) (bf b 35 hb35) (bf b 40 hb40) (bf b 41 hb41)
theorem MQ (h:eI w B b ((84,p)::r) f at_) (hl:r.length≤99990) :
    fZ 183 0 c w B b (.tuple #[]) (dL ((84,p)::r) f 84 c at_).1 (dL ((84,p)::r) f 84 c at_).2 at_:=by
  obtain⟨x0,x1,x2,x3,x4⟩:=h.cells;have HM:=aa h;clear h;go_enter Tryz.func183,Tryz.ntmps183
  go_wp2_with (first
    | (go_at_call 213;refine fi (BM.refl _ _) (AC B b r p _ _ _ _ HM.out hl) fun w1 q1 HM1 x0 x1 x2 x3 x4=>?_))
  all_goals go_returns
  all_goals first
    | exact er HM1.out q1 rfl rfl
    | exact er (HM1.out.setFresh _) (BM.setCell q1 HM1.out _) rfl rfl
theorem MW (h:eI w B b ((67,p)::r) f at_) (hl:r.length≤99990) (ht:r≠[]) :
    fZ 183 1 c w B b (.tuple #[]) (dL ((67,p)::r) f 67 c at_).1 (dL ((67,p)::r) f 67 c at_).2 at_:=by
  obtain⟨x0,x1,x2,x3,x4⟩:=h.cells;have HM:=aa h;clear h;go_enter Tryz.func183,Tryz.ntmps183
  go_wp2_with (first
    | (go_at_call 213;refine fi (BM.refl _ _) (AE B b r p _ _ _ _ HM.out hl ht) fun w1 q1 HM1 x0 x1 x2 x3 x4=>?_))
  all_goals go_returns
  all_goals first
    | exact er HM1.out q1 rfl rfl
    | exact er (HM1.out.setFresh _) (BM.setCell q1 HM1.out _) rfl rfl
theorem MS (h:eI w B b ((80,p)::r) f at_) (hl:r.length≤99990) (ht:r≠[]) :
    fZ 183 2 c w B b (.tuple #[]) (dL ((80,p)::r) f 80 c at_).1 (dL ((80,p)::r) f 80 c at_).2 at_:=by
  obtain⟨x0,x1,x2,x3,x4⟩:=h.cells;have HM:=aa h;clear h;go_enter Tryz.func183,Tryz.ntmps183
  go_wp2_with (first
    | (go_at_call 213;refine fi (BM.refl _ _) (AD B b r p _ _ _ _ HM.out hl ht) fun w1 q1 HM1 x0 x1 x2 x3 x4=>?_))
  all_goals go_returns
  all_goals first
    | exact er HM1.out q1 rfl rfl
    | exact er (HM1.out.setFresh _) (BM.setCell q1 HM1.out _) rfl rfl
theorem MX (h:eI w B b ((65,p)::r) f at_) (hl:r.length≤99990) (ht:r≠[]) :
    fZ 183 9 c w B b (.tuple #[]) (dL ((65,p)::r) f 65 c at_).1 (dL ((65,p)::r) f 65 c at_).2 at_:=by
  obtain⟨x0,x1,x2,x3,x4⟩:=h.cells;have HM:=aa h;clear h;go_enter Tryz.func183,Tryz.ntmps183
  go_wp2_with (first
    | (go_at_call 215;refine fi (BM.refl _ _) (Hy B b r p _ _ _ _ HM.out hl ht) fun w1 q1 HM1 x0 x1 x2 x3 x4=>?_))
  all_goals go_returns
  all_goals first
    | exact er HM1.out q1 rfl rfl
    | exact er (HM1.out.setFresh _) (BM.setCell q1 HM1.out _) rfl rfl
theorem MR (h:eI w B b ((82,p)::r) f at_) (hl:r.length≤99990) (ht:r≠[]) :
    fZ 183 10 c w B b (.tuple #[]) (dL ((82,p)::r) f 82 c at_).1 (dL ((82,p)::r) f 82 c at_).2 at_:=by
  obtain⟨x0,x1,x2,x3,x4⟩:=h.cells;have HM:=aa h;clear h;go_enter Tryz.func183,Tryz.ntmps183
  go_wp2_with (first
    | (go_at_call 215;refine fi (BM.refl _ _) (Hw B b r p _ _ _ _ HM.out hl ht) fun w1 q1 HM1 x0 x1 x2 x3 x4=>?_))
  all_goals go_returns
  all_goals first
    | exact er HM1.out q1 rfl rfl
    | exact er (HM1.out.setFresh _) (BM.setCell q1 HM1.out _) rfl rfl
theorem MV (h:eI w B b ((68,p)::r) f at_) (hl:r.length≤99990) (ht:r≠[]) :
    fZ 183 5 c w B b (.tuple #[]) (dL ((68,p)::r) f 68 c at_).1 (dL ((68,p)::r) f 68 c at_).2 at_:=by
  obtain⟨x0,x1,x2,x3,x4⟩:=h.cells;have HM:=aa h;clear h;go_enter Tryz.func183,Tryz.ntmps183
  go_wp2_with (first
    | (go_at_call 216;refine fi (BM.refl _ _) (Dc B b r p _ _ _ _ HM.out hl ht) fun w1 q1 HM1 x0 x1 x2 x3 x4=>?_))
  all_goals go_returns
  all_goals first
    | exact er HM1.out q1 rfl rfl
    | exact er (HM1.out.setFresh _) (BM.setCell q1 HM1.out _) rfl rfl
theorem MU (h:eI w B b ((73,p)::r) f at_) (hl:r.length≤99990) (ht:r≠[]) :
    fZ 183 8 c w B b (.tuple #[]) (dL ((73,p)::r) f 73 c at_).1 (dL ((73,p)::r) f 73 c at_).2 at_:=by
  obtain⟨x0,x1,x2,x3,x4⟩:=h.cells;have HM:=aa h;clear h;go_enter Tryz.func183,Tryz.ntmps183
  go_wp2_with (first
    | (go_at_call 216;refine fi (BM.refl _ _) (Db B b r p _ _ _ _ HM.out hl ht) fun w1 q1 HM1 x0 x1 x2 x3 x4=>?_))
  all_goals go_returns
  all_goals first
    | exact er HM1.out q1 rfl rfl
    | exact er (HM1.out.setFresh _) (BM.setCell q1 HM1.out _) rfl rfl
theorem MO (h:eI w B b ((86,p)::r) f at_) (hl:r.length≤99990) (ht:r≠[]) :
    fZ 183 7 c w B b (.tuple #[]) (dL ((86,p)::r) f 86 c at_).1 (dL ((86,p)::r) f 86 c at_).2 at_:=by
  obtain⟨x0,x1,x2,x3,x4⟩:=h.cells;have HM:=aa h;clear h;go_enter Tryz.func183,Tryz.ntmps183
  go_wp2_with (first
    | (go_at_call 216;refine fi (BM.refl _ _) (Da B b r p _ _ _ _ HM.out hl ht) fun w1 q1 HM1 x0 x1 x2 x3 x4=>?_))
  all_goals go_returns
  all_goals first
    | exact er HM1.out q1 rfl rfl
    | exact er (HM1.out.setFresh _) (BM.setCell q1 HM1.out _) rfl rfl
theorem De (f:Bool) (at_:Int) (w:World) (h:eI w B b ((88,p)::r) true at_) (hl:r.length≤99990) (ht:r≠[]) :
    fZ 183 13 10 w B b (.tuple #[]) r true at_:=by
  obtain⟨x0,x1,x2,x3,x4⟩:=h.cells;have HM:=aa h;clear h;go_enter Tryz.func183,Tryz.ntmps183
  go_wp2_with (first
    | (go_at_call 182;with_reducible refine fi (BM.refl _ _) (i9 B b _ _ _ _ _ _ HM.out ht) fun w1 q1 HM1 x0 x1 x2 x3 x4=>?_))
  all_goals go_returns
  all_goals first
    | exact er HM1.out q1 rfl rfl
    | exact er (HM1.out.setFresh _) (BM.setCell q1 HM1.out _) rfl rfl
theorem Fl (f:Bool) (at_:Int) (w:World) (h:eI w B b ((88,p)::r) true at_) (hl:r.length≤99990) (ht:r≠[]) (hc10:((c.toNat:Int)==10)=false) :
    fZ 183 13 c w B b (.tuple #[]) r false at_:=by
  obtain⟨x0,x1,x2,x3,x4⟩:=h.cells;have HM:=aa h;clear h;go_enter Tryz.func183,Tryz.ntmps183
  go_wp2_with (first
    | (go_at_call 182;with_reducible refine fi (BM.refl _ _) (i9 B b _ _ _ _ _ _ HM.out ht) fun w1 q1 HM1 x0 x1 x2 x3 x4=>?_))
  all_goals go_returns
  all_goals first
    | exact er HM1.out q1 rfl rfl
    | exact er (HM1.out.setFresh _) (BM.setCell q1 HM1.out _) rfl rfl
theorem Df (f:Bool) (at_:Int) (w:World) (h:eI w B b ((88,p)::r) false at_) (hl:r.length≤99990) (ht:r≠[]) :
    fZ 183 13 10 w B b (.tuple #[]) r false at_:=by
  obtain⟨x0,x1,x2,x3,x4⟩:=h.cells;have HM:=aa h;clear h;go_enter Tryz.func183,Tryz.ntmps183
  go_wp2_with (first
    | (go_at_call 182;with_reducible refine fi (BM.refl _ _) (i9 B b _ _ _ _ _ _ HM.out ht) fun w1 q1 HM1 x0 x1 x2 x3 x4=>?_))
  all_goals go_returns
  all_goals first
    | exact er HM1.out q1 rfl rfl
    | exact er (HM1.out.setFresh _) (BM.setCell q1 HM1.out _) rfl rfl
theorem Fp (f:Bool) (at_:Int) (w:World) (h:eI w B b ((88,p)::r) false at_) (hl:r.length≤99990) (ht:r≠[]) (hc10:((c.toNat:Int)==10)=false) :
    fZ 183 13 c w B b (.tuple #[]) r false at_:=by
  obtain⟨x0,x1,x2,x3,x4⟩:=h.cells;have HM:=aa h;clear h;go_enter Tryz.func183,Tryz.ntmps183
  go_wp2_with (first
    | (go_at_call 182;with_reducible refine fi (BM.refl _ _) (i9 B b _ _ _ _ _ _ HM.out ht) fun w1 q1 HM1 x0 x1 x2 x3 x4=>?_))
  all_goals go_returns
  all_goals first
    | exact er HM1.out q1 rfl rfl
    | exact er (HM1.out.setFresh _) (BM.setCell q1 HM1.out _) rfl rfl
theorem Fq (h:eI w B b ((83,p)::r) f at_) (hl:r.length≤99990) (ht:r≠[]) :
    fZ 183 4 39 w B b (.tuple #[]) r f at_:=by
  obtain⟨x0,x1,x2,x3,x4⟩:=h.cells;have HM:=aa h;clear h;go_enter Tryz.func183,Tryz.ntmps183
  go_wp2_with (first
    | (go_at_call 182;with_reducible refine fi (BM.refl _ _) (i9 B b _ _ _ _ _ _ HM.out ht) fun w1 q1 HM1 x0 x1 x2 x3 x4=>?_))
  all_goals go_returns
  all_goals first
    | exact er HM1.out q1 rfl rfl
    | exact er (HM1.out.setFresh _) (BM.setCell q1 HM1.out _) rfl rfl
theorem Jd (h:eI w B b ((83,p)::r) f at_) (hl:r.length≤99990) (hc39:((c.toNat:Int)==39)=false) :
    fZ 183 4 c w B b (.tuple #[]) ((83,p)::r) f at_:=by
  obtain⟨x0,x1,x2,x3,x4⟩:=h.cells;have HM:=aa h;clear h;go_enter Tryz.func183,Tryz.ntmps183;go_wp2_with fail;all_goals go_returns
  all_goals first
    | exact er HM.out (BM.refl _ _) rfl rfl
    | exact er (HM.out.setFresh _) (BM.setCell (BM.refl _ _) HM.out _) rfl rfl
theorem Fu (h:eI w B b ((35,p)::r) f at_) (hl:r.length≤99990) (ht:r≠[]) :
    fZ 183 14 10 w B b (.tuple #[]) r true at_:=by
  obtain⟨x0,x1,x2,x3,x4⟩:=h.cells;have HM:=aa h;clear h;go_enter Tryz.func183,Tryz.ntmps183
  go_wp2_with (first
    | (go_at_call 182;with_reducible refine fi (BM.refl _ _) (i9 B b _ _ _ _ _ _ HM.out ht) fun w1 q1 HM1 x0 x1 x2 x3 x4=>?_))
  all_goals go_returns
  all_goals first
    | exact er HM1.out q1 rfl rfl
    | exact er (HM1.out.setFresh _) (BM.setCell q1 HM1.out _) rfl rfl
theorem Jf (h:eI w B b ((35,p)::r) f at_) (hl:r.length≤99990) (hc10:((c.toNat:Int)==10)=false) :
    fZ 183 14 c w B b (.tuple #[]) ((35,p)::r) f at_:=by
  obtain⟨x0,x1,x2,x3,x4⟩:=h.cells;have HM:=aa h;clear h;go_enter Tryz.func183,Tryz.ntmps183;go_wp2_with fail;all_goals go_returns
  all_goals first
    | exact er HM.out (BM.refl _ _) rfl rfl
    | exact er (HM.out.setFresh _) (BM.setCell (BM.refl _ _) HM.out _) rfl rfl
theorem Fs (h:eI w B b ((66,p)::r) f at_) (hl:r.length≤99990) (ht:r≠[]) :
    fZ 183 6 96 w B b (.tuple #[]) r f at_:=by
  obtain⟨x0,x1,x2,x3,x4⟩:=h.cells;have HM:=aa h;clear h;go_enter Tryz.func183,Tryz.ntmps183
  go_wp2_with (first
    | (go_at_call 182;with_reducible refine fi (BM.refl _ _) (i9 B b _ _ _ _ _ _ HM.out ht) fun w1 q1 HM1 x0 x1 x2 x3 x4=>?_))
  all_goals go_returns
  all_goals first
    | exact er HM1.out q1 rfl rfl
    | exact er (HM1.out.setFresh _) (BM.setCell q1 HM1.out _) rfl rfl
theorem Ft (h:eI w B b ((66,p)::r) f at_) (hl:r.length≤99990) :
    fZ 183 6 92 w B b (.tuple #[]) ((88,at_)::(66,p)::r) f at_:=by
  obtain⟨x0,x1,x2,x3,x4⟩:=h.cells;have HM:=aa h;clear h;go_enter Tryz.func183,Tryz.ntmps183
  go_wp2_with (first
    | (go_at_call 214;with_reducible refine fi (BM.refl _ _) (jH B b _ _ _ 88 13 _ rfl HM.out (by simp) (by simp at *;omega)) fun w1 q1 HM1 x0 x1 x2 x3 x4=>?_))
  all_goals go_returns
  all_goals first
    | exact er HM1.out q1 rfl rfl
    | exact er (HM1.out.setFresh _) (BM.setCell q1 HM1.out _) rfl rfl
theorem Je (h:eI w B b ((66,p)::r) f at_) (hl:r.length≤99990) (hc96:((c.toNat:Int)==96)=false) (hc92:((c.toNat:Int)==92)=false) :
    fZ 183 6 c w B b (.tuple #[]) ((66,p)::r) f at_:=by
  obtain⟨x0,x1,x2,x3,x4⟩:=h.cells;have HM:=aa h;clear h;go_enter Tryz.func183,Tryz.ntmps183;go_wp2_with fail;all_goals go_returns
  all_goals first
    | exact er HM.out (BM.refl _ _) rfl rfl
    | exact er (HM.out.setFresh _) (BM.setCell (BM.refl _ _) HM.out _) rfl rfl
theorem sR (r:eU) (c:UInt8) (p m:Int) (b:UInt8) (f:Bool) (at_:Int) (w:World) (hm:m=eH c) (h:eI w B b0 ((c,p)::r) f at_) (hl:r.length≤99990) (ht:c≠84→r≠[]) (hc:c=84∨c=67∨c=80∨c=65∨c=82∨c=68∨c=73∨c=86∨c=88∨c=83∨c=35∨c=66) :
    fZ 183 m b w B b0 (.tuple #[]) (dL ((c,p)::r) f c b at_).1 (dL ((c,p)::r) f c b at_).2 at_:=by
  rcases hc with rfl|rfl|rfl|rfl|rfl|rfl|rfl|rfl|rfl|rfl|rfl|rfl
  ·obtain rfl:m=0:=hm;exact MQ B b0 r p b f at_ w h hl
  ·obtain rfl:m=1:=hm;exact MW B b0 r p b f at_ w h hl (ht (by decide))
  ·obtain rfl:m=2:=hm;exact MS B b0 r p b f at_ w h hl (ht (by decide))
  ·obtain rfl:m=9:=hm;exact MX B b0 r p b f at_ w h hl (ht (by decide))
  ·obtain rfl:m=10:=hm;exact MR B b0 r p b f at_ w h hl (ht (by decide))
  ·obtain rfl:m=5:=hm;exact MV B b0 r p b f at_ w h hl (ht (by decide))
  ·obtain rfl:m=8:=hm;exact MU B b0 r p b f at_ w h hl (ht (by decide))
  ·obtain rfl:m=7:=hm;exact MO B b0 r p b f at_ w h hl (ht (by decide))
  ·obtain rfl:m=13:=hm;have ht:=ht (by decide);rcases aF (b=10) with rfl|hb10
   ·have e:dL ((88,p)::r) f 88 10 at_=(r,f):=by simp[dL]
    rw[e]
    cases f
    ·exact Df B b0 r p false at_ w h hl ht
    ·exact De B b0 r p true at_ w h hl ht
   have n10:b.toNat≠10:=nn hb10;have e:dL ((88,p)::r) f 88 b at_=(r,false):=by simp[dL,n10]
   rw[e]
   cases f
   ·exact Fp B b0 r p b false at_ w h hl ht (bf b 10 hb10)
   ·exact Fl B b0 r p b true at_ w h hl ht (bf b 10 hb10)
  ·obtain rfl:m=4:=hm;have ht:=ht (by decide);rcases aF (b=39) with rfl|hb39
   ·have e:dL ((83,p)::r) f 83 39 at_=(r,f):=by simp[dL]
    rw[e];exact Fq B b0 r p f at_ w h hl ht
   have n39:b.toNat≠39:=nn hb39;have e:dL ((83,p)::r) f 83 b at_=(((83,p)::r),f):=by simp[dL,n39]
   rw[e];exact Jd B b0 r p b f at_ w h hl (bf b 39 hb39)
  ·obtain rfl:m=14:=hm;have ht:=ht (by decide);rcases aF (b=10) with rfl|hb10
   ·have e:dL ((35,p)::r) f 35 10 at_=(r,true):=by simp[dL]
    rw[e];exact Fu B b0 r p f at_ w h hl ht
   have n10:b.toNat≠10:=nn hb10;have e:dL ((35,p)::r) f 35 b at_=(((35,p)::r),f):=by simp[dL,n10]
   rw[e];exact Jf B b0 r p b f at_ w h hl (bf b 10 hb10)
  ·obtain rfl:m=6:=hm;have ht:=ht (by decide);rcases aF (b=96) with rfl|hb96
   ·have e:dL ((66,p)::r) f 66 96 at_=(r,f):=by simp[dL]
    rw[e];exact Fs B b0 r p f at_ w h hl ht
   have n96:b.toNat≠96:=nn hb96;rcases aF (b=92) with rfl|hb92
   ·have e:dL ((66,p)::r) f 66 92 at_=(((88,at_)::(66,p)::r),f):=by simp[dL]
    rw[e];exact Ft B b0 r p f at_ w h hl
   have n92:b.toNat≠92:=nn hb92;have e:dL ((66,p)::r) f 66 b at_=(((66,p)::r),f):=by simp[dL,n96,n92]
   rw[e];exact Je B b0 r p b f at_ w h hl (bf b 96 hb96) (bf b 92 hb92)
theorem eI.drewN {w:World} {B b:Nat} {st:eU} {f:Bool} {at_:Int} (h:eI w B b st f at_) (n:Nat):eI (w.drewN n) B b st f at_:=h
theorem xk (p q:Int) (c d:UInt8) (m:Int) (w:World) (hm:m=eH d) (h:eI w B b ((c,p)::(d,q)::st) f at_) :
    NB 212 #[.pointer (some ⟨b,0,none⟩)] w (.int .i64 m):=by
  subst hm;exact Ke B b st f at_ p q c d w h
theorem Nt (h:eI w B b ((76,p)::(d,q)::r) f at_) (hl:r.length≤99980) :
    lC 180 40 w B b (.bool true) ((79,p)::(d,q)::r) true at_:=by
  obtain⟨x0,x1,x2,x3,x4⟩:=h.cells;have HM:=aa h;clear h;go_enter Tryz.func180,Tryz.ntmps180
  go_wp2_with (first
    | (go_at_call 181;with_reducible refine fi (BM.refl _ _) (km B b _ _ _ _ _ 79 3 _ rfl HM.out) fun w1 q1 HM1 x0 x1 x2 x3 x4=>?_))
  all_goals go_returns
  all_goals first
    | exact er HM1.out q1 rfl rfl
    | exact er (HM1.out.setFresh _) (BM.setCell q1 HM1.out _) rfl rfl
theorem Nu (h:eI w B b ((76,p)::(d,q)::r) f at_) (hl:r.length≤99980) :
    lC 180 36 w B b (.bool true) ((d,q)::r) f at_:=by
  obtain⟨x0,x1,x2,x3,x4⟩:=h.cells;have HM:=aa h;clear h;go_enter Tryz.func180,Tryz.ntmps180
  go_wp2_with (first
    | (go_at_call 182;refine fi (BM.refl _ _) (i9 B b _ _ _ _ _ _ HM.out (by simp)) fun w1 q1 HM1 x0 x1 x2 x3 x4=>?_))
  all_goals go_returns
  all_goals first
    | exact er HM1.out q1 rfl rfl
    | exact er (HM1.out.setFresh _) (BM.setCell q1 HM1.out _) rfl rfl
theorem NI (h:eI w B b ((76,p)::(d,q)::r) f at_) (hl:r.length≤99980) (hc40:((c.toNat:Int)==40)=false) (hc123:((c.toNat:Int)==123)=false) (hc36:((c.toNat:Int)==36)=false) :
    lC 180 c w B b (.bool false) ((d,q)::r) f at_:=by
  obtain⟨x0,x1,x2,x3,x4⟩:=h.cells;have HM:=aa h;clear h;go_enter Tryz.func180,Tryz.ntmps180
  go_wp2_with (first
    | (go_at_call 182;refine fi (BM.refl _ _) (i9 B b _ _ _ _ _ _ HM.out (by simp)) fun w1 q1 HM1 x0 x1 x2 x3 x4=>?_))
  all_goals go_returns
  all_goals first
    | exact er HM1.out q1 rfl rfl
    | exact er (HM1.out.setFresh _) (BM.setCell q1 HM1.out _) rfl rfl
theorem G6 (h:eI w B b ((76,p)::(d,q)::r) f at_) (hl:r.length≤99980) (hmd:m=eH d) (hm5:m=5) :
    lC 180 123 w B b (.bool true) ((73,p)::(d,q)::r) f at_:=by
  obtain⟨x0,x1,x2,x3,x4⟩:=h.cells;have HM:=aa h;clear h;subst hm5;have Hmd:=aa hmd;clear hmd;go_enter Tryz.func180,Tryz.ntmps180
  go_wp2_with (first
    | (go_at_call 212;refine(xk B b _ _ _ _ _ _ _ _ _ Hmd.out HM.out).mono ?_;rintro e w0 ⟨rfl,nq,rfl⟩)
    | (go_at_call 181;with_reducible refine fi (BM.drewN (BM.refl B w) nq) (km B b _ _ _ _ _ 73 8 _ rfl (HM.out.drewN nq)) fun w1 q1 HM1 x0 x1 x2 x3 x4=>?_))
  all_goals go_returns
  all_goals first
    | exact er HM1.out q1 rfl rfl
    | exact er (HM1.out.setFresh _) (BM.setCell q1 HM1.out _) rfl rfl
theorem G5 (h:eI w B b ((76,p)::(d,q)::r) f at_) (hl:r.length≤99980) (hmd:m=eH d) (hm5:m=8) :
    lC 180 123 w B b (.bool true) ((73,p)::(d,q)::r) f at_:=by
  obtain⟨x0,x1,x2,x3,x4⟩:=h.cells;have HM:=aa h;clear h;subst hm5;have Hmd:=aa hmd;clear hmd;go_enter Tryz.func180,Tryz.ntmps180
  go_wp2_with (first
    | (go_at_call 212;refine(xk B b _ _ _ _ _ _ _ _ _ Hmd.out HM.out).mono ?_;rintro e w0 ⟨rfl,nq,rfl⟩)
    | (go_at_call 181;with_reducible refine fi (BM.drewN (BM.refl B w) nq) (km B b _ _ _ _ _ 73 8 _ rfl (HM.out.drewN nq)) fun w1 q1 HM1 x0 x1 x2 x3 x4=>?_))
  all_goals go_returns
  all_goals first
    | exact er HM1.out q1 rfl rfl
    | exact er (HM1.out.setFresh _) (BM.setCell q1 HM1.out _) rfl rfl
theorem G0 (h:eI w B b ((76,p)::(d,q)::r) f at_) (hl:r.length≤99980) (hmd:m=eH d) (hm5:(m==5)=false) (hm8:(m==8)=false) :
    lC 180 123 w B b (.bool true) ((86,p)::(d,q)::r) f at_:=by
  obtain⟨x0,x1,x2,x3,x4⟩:=h.cells;have HM:=aa h;clear h;have Hmd:=aa hmd;clear hmd;go_enter Tryz.func180,Tryz.ntmps180
  go_wp2_with (first
    | (go_at_call 212;refine(xk B b _ _ _ _ _ _ _ _ _ Hmd.out HM.out).mono ?_;rintro e w0 ⟨rfl,nq,rfl⟩)
    | (go_at_call 181;with_reducible refine fi (BM.drewN (BM.refl B w) nq) (km B b _ _ _ _ _ 86 7 _ rfl (HM.out.drewN nq)) fun w1 q1 HM1 x0 x1 x2 x3 x4=>?_))
  all_goals go_returns
  all_goals first
    | exact er HM1.out q1 rfl rfl
    | exact er (HM1.out.setFresh _) (BM.setCell q1 HM1.out _) rfl rfl
end Go.Proofs.YtcagfamdoaoimaaGreatDoor
