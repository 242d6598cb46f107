/- The program's machine (modes.Machine) in memory: its frames hold the modes of a stack of letters; open, shut, become, below, New. -/
import Derived.Test.YtlbfdbinaekjoaaGreatDoorMem
import Derived.Test.YtlbfdbinaekjoaaGreatDoorPl6
import Derived.Test.YtlbfdbinaekjoaaGreatDoorCls
namespace Go.Proofs.YtlbfdbinaekjoaaGreatDoor
open Go.RowKit
set_option linter.unusedVariables false
set_option linter.unusedSimpArgs false
set_option maxRecDepth 100000
def fcells (st:Stk):List Value:=st.reverse.flatMap fun x=>[.int .i64 (modeOf x.1),.int .i64 x.2]
theorem fcells_cons (c:UInt8) (p:Int) (st:Stk):fcells ((c,p)::st)=fcells st++[.int .i64 (modeOf c),.int .i64 p]:=by simp[fcells]
theorem fcells_len (st:Stk):(fcells st).length=st.length*2:=by
  induction st with
  | nil=>rfl
  | cons x st ih=>obtain⟨c,p⟩:=x;rw[fcells_cons];simp[ih];omega
def Mach (w:World) (B b:Nat) (st:Stk) (f:Bool) (at_:Int):Prop:=
  B≤b∧∃g cap,Bk w b 140 #[.slice (some ⟨g,0,none⟩) st.length cap,.bool f,.int .i64 at_]∧w.ownsRow B 138 2 (.slice (some ⟨g,0,none⟩) st.length cap) st.length (fcells st)
theorem Mach.below {w w':World} {B b:Nat} {st:Stk} {f:Bool} {at_:Int} (h:Mach w B b st f at_) (hb:Below w.heap.size w w'):Mach w' B b st f at_:=by
  obtain⟨h1,g,cap,h2,h3⟩:=h
  exact⟨h1,g,cap,h2.below hb h2.lt,own_below h3 hb⟩
theorem Mach.le {w:World} {B b:Nat} {st:Stk} {f:Bool} {at_:Int} (h:Mach w B b st f at_):B≤b∧b<w.heap.size:=by
  obtain⟨h1,g,cap,h2,h3⟩:=h
  exact⟨h1,h2.lt⟩
structure BM (B:Nat) (w w':World):Prop where
  b:Below B w w'
  t:KT [140,138] w w'
theorem BM.refl (B:Nat) (w:World):BM B w w:=⟨Below.refl _ _,KT.refl _ _⟩
theorem BM.trans {B:Nat} {a b c:World} (h:BM B a b) (h':BM B b c):BM B a c:=⟨h.b.trans h'.b,h.t.trans h'.t⟩
theorem BM.drewN {B:Nat} {a b:World} (h:BM B a b) (n:Nat):BM B a (b.drewN n):=⟨below_drewN' h.b n,h.t.drewN n⟩
theorem BM.setCell {B b:Nat} {a w:World} {st:Stk} {f:Bool} {at_:Int} (h:BM B a w) (hm:Mach w B b st f at_) {i:Nat} (v:Value):BM B a (w.setCell ⟨b,i,none⟩ v):=by
  obtain⟨h1,g,cap,h2,h3⟩:=hm
  exact⟨h.b.setCell h1 v,h.t.setCell h2 (by simp) i v⟩
theorem Mach.kt {T:List TypeId} {w w':World} {B b:Nat} {st:Stk} {f:Bool} {at_:Int} (h:Mach w B b st f at_) (hk:KT T w w') (h1:140∉T) (h2:138∉T):Mach w' B b st f at_:=by
  obtain⟨m1,g,cap,m2,m3⟩:=h
  exact⟨m1,g,cap,m2.kt hk h1,own_kt m3 hk h2⟩
def Mo (w:World) (B b:Nat) (v:Value) (st:Stk) (f:Bool) (at_:Int) (e:Ending) (w':World):Prop:=e=.returned v∧Mach w' B b st f at_∧BM B w w'
theorem mo_mk {w w':World} {B b:Nat} {v:Value} {st st':Stk} {f f':Bool} {at_:Int} (h:Mach w' B b st' f' at_) (hb:BM B w w') (hs:st'=st) (hf:f'=f):Mo w B b v st f at_ (.returned v) w':=by
  subst hs hf
  exact⟨rfl,h,hb⟩
theorem Mach.setFresh {w:World} {B b:Nat} {st:Stk} {f:Bool} {at_:Int} (h:Mach w B b st f at_) (f':Bool):Mach (w.setCell ⟨b,1,none⟩ (.bool f')) B b st f' at_:=by
  obtain⟨h1,g,cap,h2,h3⟩:=h
  refine⟨h1,g,cap,by simpa using h2.set 1 (.bool f'),own_far h3 ?_ _⟩
  exact own_ne h3 h2 (by decide)
theorem Mach.setAt {w:World} {B b:Nat} {st:Stk} {f:Bool} {at_:Int} (h:Mach w B b st f at_) (k:Int):Mach (w.setCell ⟨b,2,none⟩ (.int .i64 k)) B b st f k:=by
  obtain⟨h1,g,cap,h2,h3⟩:=h
  refine⟨h1,g,cap,by simpa using h2.set 2 (.int .i64 k),own_far h3 ?_ _⟩
  exact own_ne h3 h2 (by decide)
theorem become_m (B b:Nat) (st:Stk) (f:Bool) (at_ p:Int) (c d:UInt8) (w:World) (h:Mach w B b ((c,p)::st) f at_) :
    Calls Tryz.prog 126 #[.pointer (some ⟨b,0,none⟩),.int .i64 (modeOf d)] w (Mo w B b (.tuple #[]) ((d,p)::st) f at_):=by
  obtain⟨h1,g,cap,h2,h3⟩:=h
  have hle:=own_le h3
  have hcap:=hle.2.2.1
  have hc1:st.length+1≤cap:=hle.2.1
  unfold maxLen at hcap
  have c0:w.cell? ⟨b,0,none⟩=some (.slice (some ⟨g,0,none⟩) (st.length+1) cap):=by rw[h2.cell];rfl
  have c1:w.cell? ⟨g,st.length*2,none⟩=some (.int .i64 (modeOf c)):=own_cell h3 _ _ (by rw[fcells_cons,List.getElem?_append_right (by rw[fcells_len];omega)];simp[fcells_len])
  have f1:=own_frozen h3 (st.length*2)
  have H:=Lib.hid (And.intro h1 (And.intro h2 h3))
  clear h1 h2 h3 hle
  generalize hn:st.length=n at *
  have HN:=Lib.hid hn
  clear hn
  go_enter Tryz.func126,Tryz.ntmps126
  go_wp2
  go_region
  all_goals go_end0
  all_goals (
    obtain⟨h1,h2,h3⟩:=H.out
    have hn:=HN.out
    subst hn
    refine⟨rfl,⟨h1,g,cap,?_,?_⟩,?_⟩
    ·exact(h2.far (show b≠g from fun e=>own_ne h3 h2 (by decide) (by rw[e];rfl)) _).drew
    ·refine own_drew ?_
     have:=own_set h3 (st.length*2) (.int .i64 (modeOf d))
     have e:(fcells ((c,p)::st)).set (st.length*2) (.int .i64 (modeOf d))=fcells ((d,p)::st):=by
       rw[fcells_cons,fcells_cons,List.set_append_right _ _ (by rw[fcells_len];omega)]
       simp[fcells_len]
     rw[e] at this
     exact this
    ·exact⟨((Below.refl _ _).setCell (own_le h3).2.2.2.1 _).drew,((KT.refl _ _).setCell (own_heap h3) (by simp) _ _).drew⟩)
theorem shut_m (B b:Nat) (st:Stk) (f:Bool) (at_ p:Int) (c:UInt8) (w:World) (h:Mach w B b ((c,p)::st) f at_) (hne:st≠[]) :
    Calls Tryz.prog 127 #[.pointer (some ⟨b,0,none⟩)] w (Mo w B b (.tuple #[]) st f at_):=by
  obtain⟨h1,g,cap,h2,h3⟩:=h
  obtain⟨x,r,rfl⟩:=List.exists_cons_of_ne_nil hne
  have hle:=own_le h3
  have hcap:=hle.2.2.1
  have hc1:r.length+2≤cap:=hle.2.1
  unfold maxLen at hcap
  have c0:w.cell? ⟨b,0,none⟩=some (.slice (some ⟨g,0,none⟩) (r.length+2) cap):=by rw[h2.cell];rfl
  have f1:=h2.frozen 0
  have H:=Lib.hid (And.intro h1 (And.intro h2 h3))
  clear h1 h2 h3 hle hne
  generalize hn:r.length=n at *
  have HN:=Lib.hid hn
  clear hn
  go_enter Tryz.func127,Tryz.ntmps127
  go_wp2
  go_region
  all_goals go_wp2
  all_goals go_end0
  all_goals (
    obtain⟨h1,h2,h3⟩:=H.out
    have hn:=HN.out
    subst hn
    refine⟨rfl,⟨h1,g,cap,?_,?_⟩,?_⟩
    ·have:=(h2.set 0 (.slice (some ⟨g,0,none⟩) (r.length+1) cap)).drew
     simpa using this
    ·refine own_drew (own_far ?_ ?_ _)
     ·rw[fcells_cons] at h3
      exact ownsRow_pop (fcells_len _) h3
     ·have:=own_ne h3 h2 (by decide)
      simpa [Value.ownBlock] using this
    ·exact⟨((Below.refl _ _).setCell h1 _).drew,((KT.refl _ _).setCell h2 (by simp) _ _).drew⟩)
theorem below_m (B b:Nat) (st:Stk) (f:Bool) (at_ p q:Int) (c d:UInt8) (w:World) (h:Mach w B b ((c,p)::(d,q)::st) f at_) :
    Calls Tryz.prog 150 #[.pointer (some ⟨b,0,none⟩)] w fun e w'=>e=.returned (.int .i64 (modeOf d))∧∃n,w'=w.drewN n:=by
  obtain⟨h1,g,cap,h2,h3⟩:=h
  have hle:=own_le h3
  have hcap:=hle.2.2.1
  have hc1:st.length+2≤cap:=hle.2.1
  unfold maxLen at hcap
  have c0:w.cell? ⟨b,0,none⟩=some (.slice (some ⟨g,0,none⟩) (st.length+2) cap):=by rw[h2.cell];rfl
  have c1:w.cell? ⟨g,st.length*2,none⟩=some (.int .i64 (modeOf d)):=own_cell h3 _ _ (by
    rw[fcells_cons,fcells_cons,List.append_assoc,List.getElem?_append_right (by rw[fcells_len];omega)];simp[fcells_len])
  clear h1 h2 h3 hle
  generalize st.length=n at *
  go_enter Tryz.func150,Tryz.ntmps150
  go_wp2
  go_quiet (fail)
  go_wp2
  go_ret
  exact⟨rfl,_,rfl⟩
theorem Tryz.infoFrame:(Tryz.prog.info? 138).map (fun i=>(i.zero,i.size,i.bytes))=some (some (.agg #[.int .i64 0,.int .i64 0]),2,16):=by kernel_rfl
theorem rd_two (w:World) (x y:Value) (t:TypeId):Rd (w.alloc (.cells #[x,y] t)) (w.heap.size+1) 2 (.slice (some ⟨w.heap.size,0,none⟩) 1 1) 1 [x,y]:=rd_new w [x,y] t 2 1 rfl (by omega)
theorem open_m (B b:Nat) (st:Stk) (f:Bool) (at_:Int) (d:UInt8) (w:World) (h:Mach w B b st f at_) (hne:st≠[]) (hl:st.length≤1000000) :
    Calls Tryz.prog 152 #[.pointer (some ⟨b,0,none⟩),.int .i64 (modeOf d)] w (Mo w B b (.tuple #[]) ((d,at_)::st) f at_):=by
  obtain⟨h1,g,cap,h2,h3⟩:=h
  have c0:w.cell? ⟨b,0,none⟩=some (.slice (some ⟨g,0,none⟩) st.length cap):=by rw[h2.cell];rfl
  have c2:w.cell? ⟨b,2,none⟩=some (.int .i64 at_):=by rw[h2.cell];rfl
  have f0:=h2.frozen 0
  have hbl:=h2.lt
  have hle:=own_le h3
  have hgb:¬g=b:=fun e=>own_ne h3 h2 (by decide) (by rw[e];rfl)
  have hbg:¬b=g:=fun e=>hgb e.symm
  have hB:B≤w.heap.size:=by omega
  have H:=Lib.hid (And.intro h1 (And.intro h2 (And.intro h3 hle)))
  clear h1 h2 h3 hle hne
  generalize hn:st.length=n at *
  have HN:=Lib.hid hn
  clear hn
  obtain⟨i0,hi,hz0,hz1,hz2⟩:=info_parts Tryz.infoFrame
  go_enter Tryz.func152,Tryz.ntmps152
  go_wp2
  go_region_law (first
    | (refine step_append_rd rfl (.tmp 8) (.tmp 15) 108 rfl B 138 i0 _ 2 16 Tryz.underlying108 hi hz0 hz1 hz2 rfl (by decide) (.slice (some ⟨g,0,none⟩) n cap) n (fcells st) (by simp[Act.eval]) (H.out.2.2.1.alloc _) (.slice (some ⟨w.heap.size,0,none⟩) 1 1) 1 (w.heap.size+1) [.int .i64 (modeOf d),.int .i64 at_] (by simp[Act.eval]) (Rd.drew (rd_two w _ _ _)) (by intro u hu;simp at hu;rcases hu with rfl|rfl<;>rfl) (by unfold maxLen;omega) (by omega) (by simp;omega) ?_
       intro v1 w1 hown1 hg1 hv1
       obtain⟨g',cap',rfl⟩:=own_some hown1
       have kk:=(H.out.2.1.alloc (.cells #[.int .i64 (modeOf d),.int .i64 at_] 138)).drew.grown (row:=some g) hg1 (by simpa using hbg)
       have y0:=kk.cell 0
       simp only[List.getElem?_toArray,List.getElem?_cons_zero] at y0
       have y1:=kk.frozen 0
       have H1:=Lib.hid (And.intro hown1 (And.intro hg1 kk))
       clear hown1 hg1 hv1 kk))
  all_goals go_wp2
  all_goals go_end0
  all_goals (
    obtain⟨h1,h2,h3,hle⟩:=H.out
    obtain⟨hown1,hg1,kk⟩:=H1.out
    have hn:=HN.out
    subst hn
    refine⟨rfl,⟨h1,g',cap',?_,?_⟩,?_⟩
    ·simpa using kk.set 0 (.slice (some ⟨g',0,none⟩) (st.length+1) cap')
    ·rw[fcells_cons]
     refine own_far hown1 ?_ _
     have:=own_ne hown1 kk (by decide)
     exact this
    ·exact⟨Below.setCell ((Below.alloc (Below.refl _ _) hB _).drew.grown (row:=some g) hg1 (by simp;omega) (by intro k hk;injection hk with hk;omega)) h1 _,(((KT.refl _ _).alloc _).drew.grown (row:=some g) hg1 (by intro k hk;injection hk with hk;subst hk;obtain⟨cs,t,fr,q1,q2⟩:=own_blk (own_drew (h3.alloc _)) g rfl;exact⟨cs,t,fr,q1,by rw[q2];simp⟩)).setCell kk (by simp) _ _⟩)
theorem new_m (w:World):Calls Tryz.prog 93 #[] w fun e w'=>∃b,e=.returned (.pointer (some ⟨b,0,none⟩))∧Mach w' w.heap.size b [(84,0)] true 0∧Below w.heap.size w w':=by
  go_enter Tryz.func93,Tryz.ntmps93
  go_wp2
  go_returns
  refine⟨w.heap.size+1,rfl,⟨Nat.le_succ _,w.heap.size,1,?_,?_⟩,by go_grown⟩
  ·simpa using Bk.new (w.alloc (.cells #[.int .i64 0,.int .i64 0] 138)) 140 #[.slice (some ⟨w.heap.size,0,none⟩) 1 1,.bool true,.int .i64 0]
  ·refine World.ownsRow.alloc ?_ _
   exact⟨rfl,.inr ⟨w.heap.size,1,_,rfl,Nat.le_refl _,Bk.new _ _ _,Nat.le_refl _,by unfold maxLen;omega,rfl,rfl⟩⟩
end Go.Proofs.YtlbfdbinaekjoaaGreatDoor
namespace Go.Proofs.YtlbfdbinaekjoaaGreatDoor
open Go.RowKit
set_option linter.unusedVariables false
set_option linter.unusedSimpArgs false
set_option maxRecDepth 100000
theorem Mach.cells {w:World} {B b:Nat} {st:Stk} {f:Bool} {at_:Int} (h:Mach w B b st f at_):w.cell? ⟨b,1,none⟩=some (.bool f)∧w.cell? ⟨b,2,none⟩=some (.int .i64 at_)∧w.frozen? ⟨b,1,none⟩=false∧w.frozen? ⟨b,2,none⟩=false∧b<w.heap.size:=by
  obtain⟨_,g,cap,h2,_⟩:=h
  exact⟨by rw[h2.cell];rfl,by rw[h2.cell];rfl,h2.frozen _,h2.frozen _,h2.lt⟩
theorem open_k (B b:Nat) (st:Stk) (f:Bool) (at_:Int) (d:UInt8) (m:Int) (w:World) (hm:m=modeOf d) (h:Mach w B b st f at_) (hne:st≠[]) (hl:st.length≤100000) :
    Calls Tryz.prog 152 #[.pointer (some ⟨b,0,none⟩),.int .i64 m] w (Mo w B b (.tuple #[]) ((d,at_)::st) f at_):=by
  subst hm;exact open_m B b st f at_ d w h hne (by omega)
theorem become_k (B b:Nat) (st:Stk) (f:Bool) (at_ p:Int) (c d:UInt8) (m:Int) (w:World) (hm:m=modeOf d) (h:Mach w B b ((c,p)::st) f at_) :
    Calls Tryz.prog 126 #[.pointer (some ⟨b,0,none⟩),.int .i64 m] w (Mo w B b (.tuple #[]) ((d,p)::st) f at_):=by
  subst hm;exact become_m B b st f at_ p c d w h
set_option maxHeartbeats 1000000 in
theorem inner_92 (B b:Nat) (st:Stk) (f:Bool) (at_:Int) (w:World) (h:Mach w B b st f at_) (hne:st≠[]) (hl:st.length≤100000) :
    Calls Tryz.prog 165 #[.pointer (some ⟨b,0,none⟩),.int .u8 ((92:UInt8).toNat:Int)] w (Mo w B b (.bool true) ((88,at_)::st) f at_):=by
  obtain⟨x0,x1,x2,x3,x4⟩:=h.cells
  have HM:=Lib.hid h
  clear h
  go_enter Tryz.func165,Tryz.ntmps165
  go_wp2_with (first
    | (go_at_call 152
       with_reducible refine(open_k B b _ _ _ 88 13 _ rfl HM.out hne hl).mono ?_
       rintro e w1 ⟨rfl,hm1,hb1⟩
       obtain⟨x0,x1,x2,x3,x4⟩:=hm1.cells
       have q1:BM B w w1:=hb1
       have HM1:=Lib.hid hm1
       clear hm1))
  go_ret
  exact mo_mk HM1.out q1 rfl rfl
set_option maxHeartbeats 1000000 in
theorem inner_36 (B b:Nat) (st:Stk) (f:Bool) (at_:Int) (w:World) (h:Mach w B b st f at_) (hne:st≠[]) (hl:st.length≤100000) :
    Calls Tryz.prog 165 #[.pointer (some ⟨b,0,none⟩),.int .u8 ((36:UInt8).toNat:Int)] w (Mo w B b (.bool true) ((76,at_)::st) f at_):=by
  obtain⟨x0,x1,x2,x3,x4⟩:=h.cells
  have HM:=Lib.hid h
  clear h
  go_enter Tryz.func165,Tryz.ntmps165
  go_wp2_with (first
    | (go_at_call 152
       with_reducible refine(open_k B b _ _ _ 76 12 _ rfl HM.out hne hl).mono ?_
       rintro e w1 ⟨rfl,hm1,hb1⟩
       obtain⟨x0,x1,x2,x3,x4⟩:=hm1.cells
       have q1:BM B w w1:=hb1
       have HM1:=Lib.hid hm1
       clear hm1))
  go_ret
  exact mo_mk HM1.out q1 rfl rfl
set_option maxHeartbeats 1000000 in
theorem inner_96 (B b:Nat) (st:Stk) (f:Bool) (at_:Int) (w:World) (h:Mach w B b st f at_) (hne:st≠[]) (hl:st.length≤100000) :
    Calls Tryz.prog 165 #[.pointer (some ⟨b,0,none⟩),.int .u8 ((96:UInt8).toNat:Int)] w (Mo w B b (.bool true) ((66,at_)::st) f at_):=by
  obtain⟨x0,x1,x2,x3,x4⟩:=h.cells
  have HM:=Lib.hid h
  clear h
  go_enter Tryz.func165,Tryz.ntmps165
  go_wp2_with (first
    | (go_at_call 152
       with_reducible refine(open_k B b _ _ _ 66 6 _ rfl HM.out hne hl).mono ?_
       rintro e w1 ⟨rfl,hm1,hb1⟩
       obtain⟨x0,x1,x2,x3,x4⟩:=hm1.cells
       have q1:BM B w w1:=hb1
       have HM1:=Lib.hid hm1
       clear hm1))
  go_ret
  exact mo_mk HM1.out q1 rfl rfl
set_option maxHeartbeats 1000000 in
theorem inner_no (B b:Nat) (st:Stk) (c:UInt8) (f:Bool) (at_:Int) (w:World) (h:Mach w B b st f at_) (h92:((c.toNat:Int)==92)=false) (h36:((c.toNat:Int)==36)=false) (h96:((c.toNat:Int)==96)=false) :
    Calls Tryz.prog 165 #[.pointer (some ⟨b,0,none⟩),.int .u8 (c.toNat:Int)] w (Mo w B b (.bool false) st f at_):=by
  obtain⟨x0,x1,x2,x3,x4⟩:=h.cells
  have HM:=Lib.hid h
  clear h
  go_enter Tryz.func165,Tryz.ntmps165
  go_wp2
  go_ret
  exact mo_mk HM.out (BM.refl _ _) rfl rfl
theorem inner_yes (B b:Nat) (st:Stk) (f:Bool) (at_:Int) (c d:UInt8) (w:World) (h:Mach w B b st f at_) (hne:st≠[]) (hl:st.length≤100000) (hd:opensL c=[d]) :
    Calls Tryz.prog 165 #[.pointer (some ⟨b,0,none⟩),.int .u8 (c.toNat:Int)] w (Mo w B b (.bool true) ((d,at_)::st) f at_):=by
  have hc:(c=92∧d=88)∨(c=36∧d=76)∨(c=96∧d=66):=by
    have:=byte_all (fun c=>(c==92&&opensL c==[88])||(c==36&&opensL c==[76])||(c==96&&opensL c==[66])||opensL c==[]) (by decide +kernel) c
    simp[hd] at this
    simpa [or_assoc] using this
  rcases hc with ⟨rfl,rfl⟩|⟨rfl,rfl⟩|⟨rfl,rfl⟩
  ·exact inner_92 B b st f at_ w h hne hl
  ·exact inner_36 B b st f at_ w h hne hl
  ·exact inner_96 B b st f at_ w h hne hl
end Go.Proofs.YtlbfdbinaekjoaaGreatDoor
namespace Go.Proofs.YtlbfdbinaekjoaaGreatDoor
open Go.RowKit
set_option linter.unusedVariables false
set_option linter.unusedSimpArgs false
set_option maxRecDepth 100000
set_option maxHeartbeats 1000000 in
theorem ar_yes (B b:Nat) (r:Stk) (p:Int) (m:Int) (x c d:UInt8) (f:Bool) (at_:Int) (w:World) (h:Mach w B b ((x,p)::r) f at_) (hl:r.length≤99990) (hd:opensL c=[d]) :
    Calls Tryz.prog 153 #[.pointer (some ⟨b,0,none⟩),.int .i64 m,.int .u8 ((c:UInt8).toNat:Int)] w (Mo w B b (.tuple #[]) ((d,at_)::(x,p)::r) f at_):=by
  obtain⟨x0,x1,x2,x3,x4⟩:=h.cells
  have HM:=Lib.hid h
  clear h
  go_enter Tryz.func153,Tryz.ntmps153
  go_wp2_with (first
    | (go_at_call 165
       refine(inner_yes B b _ _ _ _ _ _ HM.out (by simp) (by simp;omega) hd).mono ?_
       rintro e w1 ⟨rfl,hm1,hb1⟩
       obtain⟨x0,x1,x2,x3,x4⟩:=hm1.cells
       have q1:BM B w w1:=hb1
       have HM1:=Lib.hid hm1
       clear hm1))
  all_goals go_returns
  all_goals exact mo_mk HM1.out q1 rfl rfl
set_option maxHeartbeats 1000000 in
theorem ar_40 (B b:Nat) (r:Stk) (p:Int) (m:Int) (x:UInt8) (f:Bool) (at_:Int) (w:World) (h:Mach w B b ((x,p)::r) f at_) (hl:r.length≤99990) :
    Calls Tryz.prog 153 #[.pointer (some ⟨b,0,none⟩),.int .i64 m,.int .u8 ((40:UInt8).toNat:Int)] w (Mo w B b (.tuple #[]) ((82,at_)::(x,p)::r) f at_):=by
  obtain⟨x0,x1,x2,x3,x4⟩:=h.cells
  have HM:=Lib.hid h
  clear h
  go_enter Tryz.func153,Tryz.ntmps153
  go_wp2_with (first
    | (go_at_call 165
       refine(inner_no B b _ 40 _ _ _ HM.out (by decide) (by decide) (by decide)).mono ?_
       rintro e w1 ⟨rfl,hm1,hb1⟩
       obtain⟨x0,x1,x2,x3,x4⟩:=hm1.cells
       have q1:BM B w w1:=hb1
       have HM1:=Lib.hid hm1
       clear hm1)
    | (go_at_call 152
       with_reducible refine(open_k B b _ _ _ 82 10 _ rfl HM1.out (by simp) (by simp at *;omega)).mono ?_
       rintro e w2 ⟨rfl,hm2,hb2⟩
       obtain⟨x0,x1,x2,x3,x4⟩:=hm2.cells
       have q2:BM B w w2:=q1.trans hb2
       have HM2:=Lib.hid hm2
       clear hm2))
  all_goals go_returns
  all_goals exact mo_mk HM2.out q2 rfl rfl
set_option maxHeartbeats 1000000 in
theorem ar_41_82 (B b:Nat) (r:Stk) (p:Int) (f:Bool) (at_:Int) (w:World) (h:Mach w B b ((82,p)::r) f at_) (hl:r.length≤99990) (ht:r≠[]) :
    Calls Tryz.prog 153 #[.pointer (some ⟨b,0,none⟩),.int .i64 10,.int .u8 ((41:UInt8).toNat:Int)] w (Mo w B b (.tuple #[]) r f at_):=by
  obtain⟨x0,x1,x2,x3,x4⟩:=h.cells
  have HM:=Lib.hid h
  clear h
  go_enter Tryz.func153,Tryz.ntmps153
  go_wp2_with (first
    | (go_at_call 165
       refine(inner_no B b _ 41 _ _ _ HM.out (by decide) (by decide) (by decide)).mono ?_
       rintro e w1 ⟨rfl,hm1,hb1⟩
       obtain⟨x0,x1,x2,x3,x4⟩:=hm1.cells
       have q1:BM B w w1:=hb1
       have HM1:=Lib.hid hm1
       clear hm1)
    | (go_at_call 127
       with_reducible refine(shut_m B b _ _ _ _ _ _ HM1.out ht).mono ?_
       rintro e w2 ⟨rfl,hm2,hb2⟩
       obtain⟨x0,x1,x2,x3,x4⟩:=hm2.cells
       have q2:BM B w w2:=q1.trans hb2
       have HM2:=Lib.hid hm2
       clear hm2))
  all_goals go_returns
  all_goals exact mo_mk HM2.out q2 rfl rfl
set_option maxHeartbeats 1000000 in
theorem ar_41_65 (B b:Nat) (r:Stk) (p:Int) (f:Bool) (at_:Int) (w:World) (h:Mach w B b ((65,p)::r) f at_) (hl:r.length≤99990) :
    Calls Tryz.prog 153 #[.pointer (some ⟨b,0,none⟩),.int .i64 9,.int .u8 ((41:UInt8).toNat:Int)] w (Mo w B b (.tuple #[]) ((69,p)::r) f at_):=by
  obtain⟨x0,x1,x2,x3,x4⟩:=h.cells
  have HM:=Lib.hid h
  clear h
  go_enter Tryz.func153,Tryz.ntmps153
  go_wp2_with (first
    | (go_at_call 165
       refine(inner_no B b _ 41 _ _ _ HM.out (by decide) (by decide) (by decide)).mono ?_
       rintro e w1 ⟨rfl,hm1,hb1⟩
       obtain⟨x0,x1,x2,x3,x4⟩:=hm1.cells
       have q1:BM B w w1:=hb1
       have HM1:=Lib.hid hm1
       clear hm1)
    | (go_at_call 126
       with_reducible refine(become_k B b _ _ _ _ _ 69 11 _ rfl HM1.out).mono ?_
       rintro e w2 ⟨rfl,hm2,hb2⟩
       obtain⟨x0,x1,x2,x3,x4⟩:=hm2.cells
       have q2:BM B w w2:=q1.trans hb2
       have HM2:=Lib.hid hm2
       clear hm2))
  all_goals go_returns
  all_goals exact mo_mk HM2.out q2 rfl rfl
set_option maxHeartbeats 1000000 in
theorem ar_no (B b:Nat) (r:Stk) (p:Int) (m:Int) (x c:UInt8) (f:Bool) (at_:Int) (w:World) (h:Mach w B b ((x,p)::r) f at_) (hl:r.length≤99990) (h92:((c.toNat:Int)==92)=false) (h36:((c.toNat:Int)==36)=false) (h96:((c.toNat:Int)==96)=false) (hc40:((c.toNat:Int)==40)=false) (hc41:((c.toNat:Int)==41)=false) :
    Calls Tryz.prog 153 #[.pointer (some ⟨b,0,none⟩),.int .i64 m,.int .u8 ((c:UInt8).toNat:Int)] w (Mo w B b (.tuple #[]) ((x,p)::r) f at_):=by
  obtain⟨x0,x1,x2,x3,x4⟩:=h.cells
  have HM:=Lib.hid h
  clear h
  go_enter Tryz.func153,Tryz.ntmps153
  go_wp2_with (first
    | (go_at_call 165
       refine(inner_no B b _ _ _ _ _ HM.out h92 h36 h96).mono ?_
       rintro e w1 ⟨rfl,hm1,hb1⟩
       obtain⟨x0,x1,x2,x3,x4⟩:=hm1.cells
       have q1:BM B w w1:=hb1
       have HM1:=Lib.hid hm1
       clear hm1))
  all_goals go_returns
  all_goals exact mo_mk HM1.out q1 rfl rfl
set_option maxHeartbeats 1000000 in
theorem qu_yes (B b:Nat) (r:Stk) (p:Int) (m:Int) (x c d:UInt8) (f:Bool) (at_:Int) (w:World) (h:Mach w B b ((x,p)::r) f at_) (hl:r.length≤99990) (hd:opensL c=[d]) :
    Calls Tryz.prog 154 #[.pointer (some ⟨b,0,none⟩),.int .i64 m,.int .u8 ((c:UInt8).toNat:Int)] w (Mo w B b (.tuple #[]) ((d,at_)::(x,p)::r) f at_):=by
  obtain⟨x0,x1,x2,x3,x4⟩:=h.cells
  have HM:=Lib.hid h
  clear h
  go_enter Tryz.func154,Tryz.ntmps154
  go_wp2_with (first
    | (go_at_call 165
       refine(inner_yes B b _ _ _ _ _ _ HM.out (by simp) (by simp;omega) hd).mono ?_
       rintro e w1 ⟨rfl,hm1,hb1⟩
       obtain⟨x0,x1,x2,x3,x4⟩:=hm1.cells
       have q1:BM B w w1:=hb1
       have HM1:=Lib.hid hm1
       clear hm1))
  all_goals go_returns
  all_goals exact mo_mk HM1.out q1 rfl rfl
set_option maxHeartbeats 1000000 in
theorem qu_34_68 (B b:Nat) (r:Stk) (p:Int) (f:Bool) (at_:Int) (w:World) (h:Mach w B b ((68,p)::r) f at_) (hl:r.length≤99990) (ht:r≠[]) :
    Calls Tryz.prog 154 #[.pointer (some ⟨b,0,none⟩),.int .i64 5,.int .u8 ((34:UInt8).toNat:Int)] w (Mo w B b (.tuple #[]) r f at_):=by
  obtain⟨x0,x1,x2,x3,x4⟩:=h.cells
  have HM:=Lib.hid h
  clear h
  go_enter Tryz.func154,Tryz.ntmps154
  go_wp2_with (first
    | (go_at_call 165
       refine(inner_no B b _ 34 _ _ _ HM.out (by decide) (by decide) (by decide)).mono ?_
       rintro e w1 ⟨rfl,hm1,hb1⟩
       obtain⟨x0,x1,x2,x3,x4⟩:=hm1.cells
       have q1:BM B w w1:=hb1
       have HM1:=Lib.hid hm1
       clear hm1)
    | (go_at_call 127
       with_reducible refine(shut_m B b _ _ _ _ _ _ HM1.out ht).mono ?_
       rintro e w2 ⟨rfl,hm2,hb2⟩
       obtain⟨x0,x1,x2,x3,x4⟩:=hm2.cells
       have q2:BM B w w2:=q1.trans hb2
       have HM2:=Lib.hid hm2
       clear hm2))
  all_goals go_returns
  all_goals exact mo_mk HM2.out q2 rfl rfl
set_option maxHeartbeats 1000000 in
theorem qu_34_x (B b:Nat) (r:Stk) (p:Int) (m:Int) (x:UInt8) (f:Bool) (at_:Int) (w:World) (h:Mach w B b ((x,p)::r) f at_) (hl:r.length≤99990) (hm5:(m==5)=false) :
    Calls Tryz.prog 154 #[.pointer (some ⟨b,0,none⟩),.int .i64 m,.int .u8 ((34:UInt8).toNat:Int)] w (Mo w B b (.tuple #[]) ((68,at_)::(x,p)::r) f at_):=by
  obtain⟨x0,x1,x2,x3,x4⟩:=h.cells
  have HM:=Lib.hid h
  clear h
  go_enter Tryz.func154,Tryz.ntmps154
  go_wp2_with (first
    | (go_at_call 165
       refine(inner_no B b _ 34 _ _ _ HM.out (by decide) (by decide) (by decide)).mono ?_
       rintro e w1 ⟨rfl,hm1,hb1⟩
       obtain⟨x0,x1,x2,x3,x4⟩:=hm1.cells
       have q1:BM B w w1:=hb1
       have HM1:=Lib.hid hm1
       clear hm1)
    | (go_at_call 152
       with_reducible refine(open_k B b _ _ _ 68 5 _ rfl HM1.out (by simp) (by simp at *;omega)).mono ?_
       rintro e w2 ⟨rfl,hm2,hb2⟩
       obtain⟨x0,x1,x2,x3,x4⟩:=hm2.cells
       have q2:BM B w w2:=q1.trans hb2
       have HM2:=Lib.hid hm2
       clear hm2))
  all_goals go_returns
  all_goals exact mo_mk HM2.out q2 rfl rfl
set_option maxHeartbeats 1000000 in
theorem qu_125_x (B b:Nat) (r:Stk) (p:Int) (m:Int) (x:UInt8) (f:Bool) (at_:Int) (w:World) (h:Mach w B b ((x,p)::r) f at_) (hl:r.length≤99990) (hm5:(m==5)=false) (hm5n:(m != 5)=true) (ht:r≠[]) :
    Calls Tryz.prog 154 #[.pointer (some ⟨b,0,none⟩),.int .i64 m,.int .u8 ((125:UInt8).toNat:Int)] w (Mo w B b (.tuple #[]) r f at_):=by
  obtain⟨x0,x1,x2,x3,x4⟩:=h.cells
  have HM:=Lib.hid h
  clear h
  go_enter Tryz.func154,Tryz.ntmps154
  go_wp2_with (first
    | (go_at_call 165
       refine(inner_no B b _ 125 _ _ _ HM.out (by decide) (by decide) (by decide)).mono ?_
       rintro e w1 ⟨rfl,hm1,hb1⟩
       obtain⟨x0,x1,x2,x3,x4⟩:=hm1.cells
       have q1:BM B w w1:=hb1
       have HM1:=Lib.hid hm1
       clear hm1)
    | (go_at_call 127
       with_reducible refine(shut_m B b _ _ _ _ _ _ HM1.out ht).mono ?_
       rintro e w2 ⟨rfl,hm2,hb2⟩
       obtain⟨x0,x1,x2,x3,x4⟩:=hm2.cells
       have q2:BM B w w2:=q1.trans hb2
       have HM2:=Lib.hid hm2
       clear hm2))
  all_goals go_returns
  all_goals exact mo_mk HM2.out q2 rfl rfl
set_option maxHeartbeats 1000000 in
theorem qu_39_86 (B b:Nat) (r:Stk) (p:Int) (f:Bool) (at_:Int) (w:World) (h:Mach w B b ((86,p)::r) f at_) (hl:r.length≤99990) :
    Calls Tryz.prog 154 #[.pointer (some ⟨b,0,none⟩),.int .i64 7,.int .u8 ((39:UInt8).toNat:Int)] w (Mo w B b (.tuple #[]) ((83,at_)::(86,p)::r) f at_):=by
  obtain⟨x0,x1,x2,x3,x4⟩:=h.cells
  have HM:=Lib.hid h
  clear h
  go_enter Tryz.func154,Tryz.ntmps154
  go_wp2_with (first
    | (go_at_call 165
       refine(inner_no B b _ 39 _ _ _ HM.out (by decide) (by decide) (by decide)).mono ?_
       rintro e w1 ⟨rfl,hm1,hb1⟩
       obtain⟨x0,x1,x2,x3,x4⟩:=hm1.cells
       have q1:BM B w w1:=hb1
       have HM1:=Lib.hid hm1
       clear hm1)
    | (go_at_call 152
       with_reducible refine(open_k B b _ _ _ 83 4 _ rfl HM1.out (by simp) (by simp at *;omega)).mono ?_
       rintro e w2 ⟨rfl,hm2,hb2⟩
       obtain⟨x0,x1,x2,x3,x4⟩:=hm2.cells
       have q2:BM B w w2:=q1.trans hb2
       have HM2:=Lib.hid hm2
       clear hm2))
  all_goals go_returns
  all_goals exact mo_mk HM2.out q2 rfl rfl
set_option maxHeartbeats 1000000 in
theorem qu_no_68 (B b:Nat) (r:Stk) (p:Int) (c:UInt8) (f:Bool) (at_:Int) (w:World) (h:Mach w B b ((68,p)::r) f at_) (hl:r.length≤99990) (h92:((c.toNat:Int)==92)=false) (h36:((c.toNat:Int)==36)=false) (h96:((c.toNat:Int)==96)=false) (hc34:((c.toNat:Int)==34)=false) :
    Calls Tryz.prog 154 #[.pointer (some ⟨b,0,none⟩),.int .i64 5,.int .u8 ((c:UInt8).toNat:Int)] w (Mo w B b (.tuple #[]) ((68,p)::r) f at_):=by
  obtain⟨x0,x1,x2,x3,x4⟩:=h.cells
  have HM:=Lib.hid h
  clear h
  go_enter Tryz.func154,Tryz.ntmps154
  go_wp2_with (first
    | (go_at_call 165
       refine(inner_no B b _ _ _ _ _ HM.out h92 h36 h96).mono ?_
       rintro e w1 ⟨rfl,hm1,hb1⟩
       obtain⟨x0,x1,x2,x3,x4⟩:=hm1.cells
       have q1:BM B w w1:=hb1
       have HM1:=Lib.hid hm1
       clear hm1))
  all_goals go_returns
  all_goals exact mo_mk HM1.out q1 rfl rfl
set_option maxHeartbeats 1000000 in
theorem qu_no_73 (B b:Nat) (r:Stk) (p:Int) (c:UInt8) (f:Bool) (at_:Int) (w:World) (h:Mach w B b ((73,p)::r) f at_) (hl:r.length≤99990) (h92:((c.toNat:Int)==92)=false) (h36:((c.toNat:Int)==36)=false) (h96:((c.toNat:Int)==96)=false) (hc34:((c.toNat:Int)==34)=false) (hc125:((c.toNat:Int)==125)=false) :
    Calls Tryz.prog 154 #[.pointer (some ⟨b,0,none⟩),.int .i64 8,.int .u8 ((c:UInt8).toNat:Int)] w (Mo w B b (.tuple #[]) ((73,p)::r) f at_):=by
  obtain⟨x0,x1,x2,x3,x4⟩:=h.cells
  have HM:=Lib.hid h
  clear h
  go_enter Tryz.func154,Tryz.ntmps154
  go_wp2_with (first
    | (go_at_call 165
       refine(inner_no B b _ _ _ _ _ HM.out h92 h36 h96).mono ?_
       rintro e w1 ⟨rfl,hm1,hb1⟩
       obtain⟨x0,x1,x2,x3,x4⟩:=hm1.cells
       have q1:BM B w w1:=hb1
       have HM1:=Lib.hid hm1
       clear hm1))
  all_goals go_returns
  all_goals exact mo_mk HM1.out q1 rfl rfl
set_option maxHeartbeats 1000000 in
theorem qu_no_86 (B b:Nat) (r:Stk) (p:Int) (c:UInt8) (f:Bool) (at_:Int) (w:World) (h:Mach w B b ((86,p)::r) f at_) (hl:r.length≤99990) (h92:((c.toNat:Int)==92)=false) (h36:((c.toNat:Int)==36)=false) (h96:((c.toNat:Int)==96)=false) (hc34:((c.toNat:Int)==34)=false) (hc125:((c.toNat:Int)==125)=false) (hc39:((c.toNat:Int)==39)=false) :
    Calls Tryz.prog 154 #[.pointer (some ⟨b,0,none⟩),.int .i64 7,.int .u8 ((c:UInt8).toNat:Int)] w (Mo w B b (.tuple #[]) ((86,p)::r) f at_):=by
  obtain⟨x0,x1,x2,x3,x4⟩:=h.cells
  have HM:=Lib.hid h
  clear h
  go_enter Tryz.func154,Tryz.ntmps154
  go_wp2_with (first
    | (go_at_call 165
       refine(inner_no B b _ _ _ _ _ HM.out h92 h36 h96).mono ?_
       rintro e w1 ⟨rfl,hm1,hb1⟩
       obtain⟨x0,x1,x2,x3,x4⟩:=hm1.cells
       have q1:BM B w w1:=hb1
       have HM1:=Lib.hid hm1
       clear hm1))
  all_goals go_returns
  all_goals exact mo_mk HM1.out q1 rfl rfl
end Go.Proofs.YtlbfdbinaekjoaaGreatDoor
namespace Go.Proofs.YtlbfdbinaekjoaaGreatDoor
open Go.RowKit
set_option linter.unusedVariables false
set_option linter.unusedSimpArgs false
set_option maxRecDepth 100000
set_option maxHeartbeats 1000000 in
theorem pr_92 (B b:Nat) (r:Stk) (p:Int) (m:Int) (x:UInt8) (f:Bool) (at_:Int) (w:World) (h:Mach w B b ((x,p)::r) f at_) (hl:r.length≤99990) :
    Calls Tryz.prog 151 #[.pointer (some ⟨b,0,none⟩),.int .i64 m,.int .u8 ((92:UInt8).toNat:Int)] w (Mo w B b (.tuple #[]) ((88,at_)::(x,p)::r) f at_):=by
  obtain⟨x0,x1,x2,x3,x4⟩:=h.cells
  have HM:=Lib.hid h
  clear h
  go_enter Tryz.func151,Tryz.ntmps151
  go_wp2_with (first
    | (go_at_call 152
       with_reducible refine(open_k B b _ _ _ 88 13 _ rfl HM.out (by simp) (by simp at *;omega)).mono ?_
       rintro e w1 ⟨rfl,hm1,hb1⟩
       obtain⟨x0,x1,x2,x3,x4⟩:=hm1.cells
       have q1:BM B w w1:=hb1
       have HM1:=Lib.hid hm1
       clear hm1))
  all_goals go_returns
  all_goals first
    | exact mo_mk HM1.out q1 rfl rfl
    | exact mo_mk (HM1.out.setFresh _) (BM.setCell q1 HM1.out _) rfl (by first|rfl|decide|simp)
set_option maxHeartbeats 1000000 in
theorem pr_39 (B b:Nat) (r:Stk) (p:Int) (m:Int) (x:UInt8) (f:Bool) (at_:Int) (w:World) (h:Mach w B b ((x,p)::r) f at_) (hl:r.length≤99990) :
    Calls Tryz.prog 151 #[.pointer (some ⟨b,0,none⟩),.int .i64 m,.int .u8 ((39:UInt8).toNat:Int)] w (Mo w B b (.tuple #[]) ((83,at_)::(x,p)::r) false at_):=by
  obtain⟨x0,x1,x2,x3,x4⟩:=h.cells
  have HM:=Lib.hid h
  clear h
  go_enter Tryz.func151,Tryz.ntmps151
  go_wp2_with (first
    | (go_at_call 152
       with_reducible refine(open_k B b _ _ _ 83 4 _ rfl HM.out (by simp) (by simp at *;omega)).mono ?_
       rintro e w1 ⟨rfl,hm1,hb1⟩
       obtain⟨x0,x1,x2,x3,x4⟩:=hm1.cells
       have q1:BM B w w1:=hb1
       have HM1:=Lib.hid hm1
       clear hm1)
    | (go_at_call 124;refine(ends_c 39 _).mono ?_;rintro e w' ⟨rfl,rfl⟩))
  all_goals go_returns
  all_goals first
    | exact mo_mk HM1.out q1 rfl rfl
    | exact mo_mk (HM1.out.setFresh _) (BM.setCell q1 HM1.out _) rfl (by first|rfl|decide|simp)
set_option maxHeartbeats 1000000 in
theorem pr_34 (B b:Nat) (r:Stk) (p:Int) (m:Int) (x:UInt8) (f:Bool) (at_:Int) (w:World) (h:Mach w B b ((x,p)::r) f at_) (hl:r.length≤99990) :
    Calls Tryz.prog 151 #[.pointer (some ⟨b,0,none⟩),.int .i64 m,.int .u8 ((34:UInt8).toNat:Int)] w (Mo w B b (.tuple #[]) ((68,at_)::(x,p)::r) false at_):=by
  obtain⟨x0,x1,x2,x3,x4⟩:=h.cells
  have HM:=Lib.hid h
  clear h
  go_enter Tryz.func151,Tryz.ntmps151
  go_wp2_with (first
    | (go_at_call 152
       with_reducible refine(open_k B b _ _ _ 68 5 _ rfl HM.out (by simp) (by simp at *;omega)).mono ?_
       rintro e w1 ⟨rfl,hm1,hb1⟩
       obtain⟨x0,x1,x2,x3,x4⟩:=hm1.cells
       have q1:BM B w w1:=hb1
       have HM1:=Lib.hid hm1
       clear hm1)
    | (go_at_call 124;refine(ends_c 34 _).mono ?_;rintro e w' ⟨rfl,rfl⟩))
  all_goals go_returns
  all_goals first
    | exact mo_mk HM1.out q1 rfl rfl
    | exact mo_mk (HM1.out.setFresh _) (BM.setCell q1 HM1.out _) rfl (by first|rfl|decide|simp)
set_option maxHeartbeats 1000000 in
theorem pr_36 (B b:Nat) (r:Stk) (p:Int) (m:Int) (x:UInt8) (f:Bool) (at_:Int) (w:World) (h:Mach w B b ((x,p)::r) f at_) (hl:r.length≤99990) :
    Calls Tryz.prog 151 #[.pointer (some ⟨b,0,none⟩),.int .i64 m,.int .u8 ((36:UInt8).toNat:Int)] w (Mo w B b (.tuple #[]) ((76,at_)::(x,p)::r) false at_):=by
  obtain⟨x0,x1,x2,x3,x4⟩:=h.cells
  have HM:=Lib.hid h
  clear h
  go_enter Tryz.func151,Tryz.ntmps151
  go_wp2_with (first
    | (go_at_call 165
       refine(inner_yes B b _ _ _ 36 76 _ HM.out (by simp) (by simp;omega) (by decide)).mono ?_
       rintro e w1 ⟨rfl,hm1,hb1⟩
       obtain⟨x0,x1,x2,x3,x4⟩:=hm1.cells
       have q1:BM B w w1:=hb1
       have HM1:=Lib.hid hm1
       clear hm1)
    | (go_at_call 124;refine(ends_c 36 _).mono ?_;rintro e w' ⟨rfl,rfl⟩))
  all_goals go_returns
  all_goals first
    | exact mo_mk HM1.out q1 rfl rfl
    | exact mo_mk (HM1.out.setFresh _) (BM.setCell q1 HM1.out _) rfl (by first|rfl|decide|simp)
set_option maxHeartbeats 1000000 in
theorem pr_96 (B b:Nat) (r:Stk) (p:Int) (m:Int) (x:UInt8) (f:Bool) (at_:Int) (w:World) (h:Mach w B b ((x,p)::r) f at_) (hl:r.length≤99990) :
    Calls Tryz.prog 151 #[.pointer (some ⟨b,0,none⟩),.int .i64 m,.int .u8 ((96:UInt8).toNat:Int)] w (Mo w B b (.tuple #[]) ((66,at_)::(x,p)::r) false at_):=by
  obtain⟨x0,x1,x2,x3,x4⟩:=h.cells
  have HM:=Lib.hid h
  clear h
  go_enter Tryz.func151,Tryz.ntmps151
  go_wp2_with (first
    | (go_at_call 165
       refine(inner_yes B b _ _ _ 96 66 _ HM.out (by simp) (by simp;omega) (by decide)).mono ?_
       rintro e w1 ⟨rfl,hm1,hb1⟩
       obtain⟨x0,x1,x2,x3,x4⟩:=hm1.cells
       have q1:BM B w w1:=hb1
       have HM1:=Lib.hid hm1
       clear hm1)
    | (go_at_call 124;refine(ends_c 96 _).mono ?_;rintro e w' ⟨rfl,rfl⟩))
  all_goals go_returns
  all_goals first
    | exact mo_mk HM1.out q1 rfl rfl
    | exact mo_mk (HM1.out.setFresh _) (BM.setCell q1 HM1.out _) rfl (by first|rfl|decide|simp)
set_option maxHeartbeats 1000000 in
theorem pr_35t (B b:Nat) (r:Stk) (p:Int) (m:Int) (x:UInt8) (f:Bool) (at_:Int) (w:World) (h:Mach w B b ((x,p)::r) true at_) (hl:r.length≤99990) :
    Calls Tryz.prog 151 #[.pointer (some ⟨b,0,none⟩),.int .i64 m,.int .u8 ((35:UInt8).toNat:Int)] w (Mo w B b (.tuple #[]) ((35,at_)::(x,p)::r) true at_):=by
  obtain⟨x0,x1,x2,x3,x4⟩:=h.cells
  have HM:=Lib.hid h
  clear h
  go_enter Tryz.func151,Tryz.ntmps151
  go_wp2_with (first
    | (go_at_call 152
       with_reducible refine(open_k B b _ _ _ 35 14 _ rfl HM.out (by simp) (by simp at *;omega)).mono ?_
       rintro e w1 ⟨rfl,hm1,hb1⟩
       obtain⟨x0,x1,x2,x3,x4⟩:=hm1.cells
       have q1:BM B w w1:=hb1
       have HM1:=Lib.hid hm1
       clear hm1))
  all_goals go_returns
  all_goals first
    | exact mo_mk HM1.out q1 rfl rfl
    | exact mo_mk (HM1.out.setFresh _) (BM.setCell q1 HM1.out _) rfl (by first|rfl|decide|simp)
set_option maxHeartbeats 1000000 in
theorem pr_35f (B b:Nat) (r:Stk) (p:Int) (m:Int) (x:UInt8) (f:Bool) (at_:Int) (w:World) (h:Mach w B b ((x,p)::r) false at_) (hl:r.length≤99990) :
    Calls Tryz.prog 151 #[.pointer (some ⟨b,0,none⟩),.int .i64 m,.int .u8 ((35:UInt8).toNat:Int)] w (Mo w B b (.tuple #[]) ((x,p)::r) false at_):=by
  obtain⟨x0,x1,x2,x3,x4⟩:=h.cells
  have HM:=Lib.hid h
  clear h
  go_enter Tryz.func151,Tryz.ntmps151
  go_wp2_with (first
    | (go_at_call 124;refine(ends_c 35 _).mono ?_;rintro e w' ⟨rfl,rfl⟩))
  all_goals go_returns
  all_goals first
    | exact mo_mk HM.out (BM.refl _ _) rfl rfl
    | exact mo_mk (HM.out.setFresh _) (BM.setCell (BM.refl _ _) HM.out _) rfl (by first|rfl|decide|simp)
set_option maxHeartbeats 1000000 in
theorem pr_40t (B b:Nat) (r:Stk) (p:Int) (x:UInt8) (f:Bool) (at_:Int) (w:World) (h:Mach w B b ((x,p)::r) f at_) (hl:r.length≤99990) :
    Calls Tryz.prog 151 #[.pointer (some ⟨b,0,none⟩),.int .i64 0,.int .u8 ((40:UInt8).toNat:Int)] w (Mo w B b (.tuple #[]) ((x,p)::r) true at_):=by
  obtain⟨x0,x1,x2,x3,x4⟩:=h.cells
  have HM:=Lib.hid h
  clear h
  go_enter Tryz.func151,Tryz.ntmps151
  go_wp2_with (first
    | (go_at_call 124;refine(ends_c 40 _).mono ?_;rintro e w' ⟨rfl,rfl⟩))
  all_goals go_returns
  all_goals first
    | exact mo_mk HM.out (BM.refl _ _) rfl rfl
    | exact mo_mk (HM.out.setFresh _) (BM.setCell (BM.refl _ _) HM.out _) rfl (by first|rfl|decide|simp)
set_option maxHeartbeats 1000000 in
theorem pr_40_1 (B b:Nat) (r:Stk) (p:Int) (x:UInt8) (f:Bool) (at_:Int) (w:World) (h:Mach w B b ((x,p)::r) f at_) (hl:r.length≤99990) :
    Calls Tryz.prog 151 #[.pointer (some ⟨b,0,none⟩),.int .i64 1,.int .u8 ((40:UInt8).toNat:Int)] w (Mo w B b (.tuple #[]) ((80,at_)::(x,p)::r) true at_):=by
  obtain⟨x0,x1,x2,x3,x4⟩:=h.cells
  have HM:=Lib.hid h
  clear h
  go_enter Tryz.func151,Tryz.ntmps151
  go_wp2_with (first
    | (go_at_call 152
       with_reducible refine(open_k B b _ _ _ 80 2 _ rfl HM.out (by simp) (by simp at *;omega)).mono ?_
       rintro e w1 ⟨rfl,hm1,hb1⟩
       obtain⟨x0,x1,x2,x3,x4⟩:=hm1.cells
       have q1:BM B w w1:=hb1
       have HM1:=Lib.hid hm1
       clear hm1)
    | (go_at_call 124;refine(ends_c 40 _).mono ?_;rintro e w' ⟨rfl,rfl⟩))
  all_goals go_returns
  all_goals first
    | exact mo_mk HM1.out q1 rfl rfl
    | exact mo_mk (HM1.out.setFresh _) (BM.setCell q1 HM1.out _) rfl (by first|rfl|decide|simp)
set_option maxHeartbeats 1000000 in
theorem pr_40_2 (B b:Nat) (r:Stk) (p:Int) (x:UInt8) (f:Bool) (at_:Int) (w:World) (h:Mach w B b ((x,p)::r) f at_) (hl:r.length≤99990) :
    Calls Tryz.prog 151 #[.pointer (some ⟨b,0,none⟩),.int .i64 2,.int .u8 ((40:UInt8).toNat:Int)] w (Mo w B b (.tuple #[]) ((80,at_)::(x,p)::r) true at_):=by
  obtain⟨x0,x1,x2,x3,x4⟩:=h.cells
  have HM:=Lib.hid h
  clear h
  go_enter Tryz.func151,Tryz.ntmps151
  go_wp2_with (first
    | (go_at_call 152
       with_reducible refine(open_k B b _ _ _ 80 2 _ rfl HM.out (by simp) (by simp at *;omega)).mono ?_
       rintro e w1 ⟨rfl,hm1,hb1⟩
       obtain⟨x0,x1,x2,x3,x4⟩:=hm1.cells
       have q1:BM B w w1:=hb1
       have HM1:=Lib.hid hm1
       clear hm1)
    | (go_at_call 124;refine(ends_c 40 _).mono ?_;rintro e w' ⟨rfl,rfl⟩))
  all_goals go_returns
  all_goals first
    | exact mo_mk HM1.out q1 rfl rfl
    | exact mo_mk (HM1.out.setFresh _) (BM.setCell q1 HM1.out _) rfl (by first|rfl|decide|simp)
set_option maxHeartbeats 1000000 in
theorem pr_41t (B b:Nat) (r:Stk) (p:Int) (x:UInt8) (f:Bool) (at_:Int) (w:World) (h:Mach w B b ((x,p)::r) f at_) (hl:r.length≤99990) :
    Calls Tryz.prog 151 #[.pointer (some ⟨b,0,none⟩),.int .i64 0,.int .u8 ((41:UInt8).toNat:Int)] w (Mo w B b (.tuple #[]) ((x,p)::r) true at_):=by
  obtain⟨x0,x1,x2,x3,x4⟩:=h.cells
  have HM:=Lib.hid h
  clear h
  go_enter Tryz.func151,Tryz.ntmps151
  go_wp2_with fail
  all_goals go_returns
  all_goals first
    | exact mo_mk HM.out (BM.refl _ _) rfl rfl
    | exact mo_mk (HM.out.setFresh _) (BM.setCell (BM.refl _ _) HM.out _) rfl (by first|rfl|decide|simp)
set_option maxHeartbeats 1000000 in
theorem pr_41_1 (B b:Nat) (r:Stk) (p:Int) (x:UInt8) (f:Bool) (at_:Int) (w:World) (h:Mach w B b ((x,p)::r) f at_) (hl:r.length≤99990) (ht:r≠[]) :
    Calls Tryz.prog 151 #[.pointer (some ⟨b,0,none⟩),.int .i64 1,.int .u8 ((41:UInt8).toNat:Int)] w (Mo w B b (.tuple #[]) r false at_):=by
  obtain⟨x0,x1,x2,x3,x4⟩:=h.cells
  have HM:=Lib.hid h
  clear h
  go_enter Tryz.func151,Tryz.ntmps151
  go_wp2_with (first
    | (go_at_call 127
       with_reducible refine(shut_m B b _ _ _ _ _ _ HM.out ht).mono ?_
       rintro e w1 ⟨rfl,hm1,hb1⟩
       obtain⟨x0,x1,x2,x3,x4⟩:=hm1.cells
       have q1:BM B w w1:=hb1
       have HM1:=Lib.hid hm1
       clear hm1))
  all_goals go_returns
  all_goals first
    | exact mo_mk HM1.out q1 rfl rfl
    | exact mo_mk (HM1.out.setFresh _) (BM.setCell q1 HM1.out _) rfl (by first|rfl|decide|simp)
set_option maxHeartbeats 1000000 in
theorem pr_41_2 (B b:Nat) (r:Stk) (p:Int) (x:UInt8) (f:Bool) (at_:Int) (w:World) (h:Mach w B b ((x,p)::r) f at_) (hl:r.length≤99990) (ht:r≠[]) :
    Calls Tryz.prog 151 #[.pointer (some ⟨b,0,none⟩),.int .i64 2,.int .u8 ((41:UInt8).toNat:Int)] w (Mo w B b (.tuple #[]) r true at_):=by
  obtain⟨x0,x1,x2,x3,x4⟩:=h.cells
  have HM:=Lib.hid h
  clear h
  go_enter Tryz.func151,Tryz.ntmps151
  go_wp2_with (first
    | (go_at_call 127
       with_reducible refine(shut_m B b _ _ _ _ _ _ HM.out ht).mono ?_
       rintro e w1 ⟨rfl,hm1,hb1⟩
       obtain⟨x0,x1,x2,x3,x4⟩:=hm1.cells
       have q1:BM B w w1:=hb1
       have HM1:=Lib.hid hm1
       clear hm1))
  all_goals go_returns
  all_goals first
    | exact mo_mk HM1.out q1 rfl rfl
    | exact mo_mk (HM1.out.setFresh _) (BM.setCell q1 HM1.out _) rfl (by first|rfl|decide|simp)
set_option maxHeartbeats 1000000 in
theorem pr_no (B b:Nat) (r:Stk) (p:Int) (m:Int) (x c:UInt8) (f:Bool) (at_:Int) (w:World) (h:Mach w B b ((x,p)::r) f at_) (hl:r.length≤99990) (hc92:((c.toNat:Int)==92)=false) (hc39:((c.toNat:Int)==39)=false) (hc34:((c.toNat:Int)==34)=false) (hc96:((c.toNat:Int)==96)=false) (hc36:((c.toNat:Int)==36)=false) (hc35:((c.toNat:Int)==35)=false) (hc40:((c.toNat:Int)==40)=false) (hc41:((c.toNat:Int)==41)=false) :
    Calls Tryz.prog 151 #[.pointer (some ⟨b,0,none⟩),.int .i64 m,.int .u8 ((c:UInt8).toNat:Int)] w (Mo w B b (.tuple #[]) ((x,p)::r) (endsB c) at_):=by
  obtain⟨x0,x1,x2,x3,x4⟩:=h.cells
  have HM:=Lib.hid h
  clear h
  go_enter Tryz.func151,Tryz.ntmps151
  go_wp2_with (first
    | (go_at_call 124;refine(ends_c c _).mono ?_;rintro e w' ⟨rfl,rfl⟩))
  all_goals go_returns
  all_goals first
    | exact mo_mk HM.out (BM.refl _ _) rfl rfl
    | exact mo_mk (HM.out.setFresh _) (BM.setCell (BM.refl _ _) HM.out _) rfl (by first|rfl|decide|simp)
end Go.Proofs.YtlbfdbinaekjoaaGreatDoor
namespace Go.Proofs.YtlbfdbinaekjoaaGreatDoor
open Go.RowKit
set_option linter.unusedVariables false
set_option linter.unusedSimpArgs false
set_option maxRecDepth 100000
theorem bf (b v:UInt8) (h:b≠v):((b.toNat:Int)==(v.toNat:Int))=false:=by
  rw[beq_eq_false_iff_ne]
  intro e
  exact h (UInt8.toNat_inj.1 (by omega))
theorem nn {b v:UInt8} (h:b≠v):b.toNat≠v.toNat:=fun e=>h (UInt8.toNat_inj.1 e)
theorem arith_65 (B b0:Nat) (r:Stk) (p:Int) (b:UInt8) (f:Bool) (at_:Int) (w:World) (h:Mach w B b0 ((65,p)::r) f at_) (hl:r.length≤99990) (ht:r≠[]) :
    Calls Tryz.prog 153 #[.pointer (some ⟨b0,0,none⟩),.int .i64 9,.int .u8 (b.toNat:Int)] w (Mo w B b0 (.tuple #[]) (rPlain ((65,p)::r) f 65 b at_).1 (rPlain ((65,p)::r) f 65 b at_).2 at_):=by
  rcases Decidable.em (b=92) with rfl|hb92
  ·have e:rPlain ((65,p)::r) f 65 92 at_=(((88,at_)::(65,p)::r),f):=by simp[rPlain,rProgram]
   rw[e]
   exact ar_yes B b0 r p 9 65 92 88 f at_ w h hl (by decide)
  have n92:b.toNat≠92:=nn hb92
  rcases Decidable.em (b=36) with rfl|hb36
  ·have e:rPlain ((65,p)::r) f 65 36 at_=(((76,at_)::(65,p)::r),f):=by simp[rPlain,rProgram]
   rw[e]
   exact ar_yes B b0 r p 9 65 36 76 f at_ w h hl (by decide)
  have n36:b.toNat≠36:=nn hb36
  rcases Decidable.em (b=96) with rfl|hb96
  ·have e:rPlain ((65,p)::r) f 65 96 at_=(((66,at_)::(65,p)::r),f):=by simp[rPlain,rProgram]
   rw[e]
   exact ar_yes B b0 r p 9 65 96 66 f at_ w h hl (by decide)
  have n96:b.toNat≠96:=nn hb96
  rcases Decidable.em (b=40) with rfl|hb40
  ·have e:rPlain ((65,p)::r) f 65 40 at_=(((82,at_)::(65,p)::r),f):=by simp[rPlain,rProgram]
   rw[e]
   exact ar_40 B b0 r p 9 65 f at_ w h hl
  have n40:b.toNat≠40:=nn hb40
  rcases Decidable.em (b=41) with rfl|hb41
  ·have e:rPlain ((65,p)::r) f 65 41 at_=(((69,p)::r),f):=by simp[rPlain,rProgram]
   rw[e]
   exact ar_41_65 B b0 r p f at_ w h hl
  have n41:b.toNat≠41:=nn hb41
  have e:rPlain ((65,p)::r) f 65 b at_=(((65,p)::r),f):=by simp[rPlain,rProgram,n92,n36,n96,n40,n41]
  rw[e]
  exact ar_no B b0 r p 9 65 b f at_ w h hl (bf b 92 hb92) (bf b 36 hb36) (bf b 96 hb96) (bf b 40 hb40) (bf b 41 hb41)
theorem arith_82 (B b0:Nat) (r:Stk) (p:Int) (b:UInt8) (f:Bool) (at_:Int) (w:World) (h:Mach w B b0 ((82,p)::r) f at_) (hl:r.length≤99990) (ht:r≠[]) :
    Calls Tryz.prog 153 #[.pointer (some ⟨b0,0,none⟩),.int .i64 10,.int .u8 (b.toNat:Int)] w (Mo w B b0 (.tuple #[]) (rPlain ((82,p)::r) f 82 b at_).1 (rPlain ((82,p)::r) f 82 b at_).2 at_):=by
  rcases Decidable.em (b=92) with rfl|hb92
  ·have e:rPlain ((82,p)::r) f 82 92 at_=(((88,at_)::(82,p)::r),f):=by simp[rPlain,rProgram]
   rw[e]
   exact ar_yes B b0 r p 10 82 92 88 f at_ w h hl (by decide)
  have n92:b.toNat≠92:=nn hb92
  rcases Decidable.em (b=36) with rfl|hb36
  ·have e:rPlain ((82,p)::r) f 82 36 at_=(((76,at_)::(82,p)::r),f):=by simp[rPlain,rProgram]
   rw[e]
   exact ar_yes B b0 r p 10 82 36 76 f at_ w h hl (by decide)
  have n36:b.toNat≠36:=nn hb36
  rcases Decidable.em (b=96) with rfl|hb96
  ·have e:rPlain ((82,p)::r) f 82 96 at_=(((66,at_)::(82,p)::r),f):=by simp[rPlain,rProgram]
   rw[e]
   exact ar_yes B b0 r p 10 82 96 66 f at_ w h hl (by decide)
  have n96:b.toNat≠96:=nn hb96
  rcases Decidable.em (b=40) with rfl|hb40
  ·have e:rPlain ((82,p)::r) f 82 40 at_=(((82,at_)::(82,p)::r),f):=by simp[rPlain,rProgram]
   rw[e]
   exact ar_40 B b0 r p 10 82 f at_ w h hl
  have n40:b.toNat≠40:=nn hb40
  rcases Decidable.em (b=41) with rfl|hb41
  ·have e:rPlain ((82,p)::r) f 82 41 at_=(r,f):=by simp[rPlain,rProgram]
   rw[e]
   exact ar_41_82 B b0 r p f at_ w h hl ht
  have n41:b.toNat≠41:=nn hb41
  have e:rPlain ((82,p)::r) f 82 b at_=(((82,p)::r),f):=by simp[rPlain,rProgram,n92,n36,n96,n40,n41]
  rw[e]
  exact ar_no B b0 r p 10 82 b f at_ w h hl (bf b 92 hb92) (bf b 36 hb36) (bf b 96 hb96) (bf b 40 hb40) (bf b 41 hb41)
theorem quoted_68 (B b0:Nat) (r:Stk) (p:Int) (b:UInt8) (f:Bool) (at_:Int) (w:World) (h:Mach w B b0 ((68,p)::r) f at_) (hl:r.length≤99990) (ht:r≠[]) :
    Calls Tryz.prog 154 #[.pointer (some ⟨b0,0,none⟩),.int .i64 5,.int .u8 (b.toNat:Int)] w (Mo w B b0 (.tuple #[]) (rPlain ((68,p)::r) f 68 b at_).1 (rPlain ((68,p)::r) f 68 b at_).2 at_):=by
  rcases Decidable.em (b=92) with rfl|hb92
  ·have e:rPlain ((68,p)::r) f 68 92 at_=(((88,at_)::(68,p)::r),f):=by simp[rPlain,rProgram]
   rw[e]
   exact qu_yes B b0 r p 5 68 92 88 f at_ w h hl (by decide)
  have n92:b.toNat≠92:=nn hb92
  rcases Decidable.em (b=36) with rfl|hb36
  ·have e:rPlain ((68,p)::r) f 68 36 at_=(((76,at_)::(68,p)::r),f):=by simp[rPlain,rProgram]
   rw[e]
   exact qu_yes B b0 r p 5 68 36 76 f at_ w h hl (by decide)
  have n36:b.toNat≠36:=nn hb36
  rcases Decidable.em (b=96) with rfl|hb96
  ·have e:rPlain ((68,p)::r) f 68 96 at_=(((66,at_)::(68,p)::r),f):=by simp[rPlain,rProgram]
   rw[e]
   exact qu_yes B b0 r p 5 68 96 66 f at_ w h hl (by decide)
  have n96:b.toNat≠96:=nn hb96
  rcases Decidable.em (b=34) with rfl|hb34
  ·have e:rPlain ((68,p)::r) f 68 34 at_=(r,f):=by simp[rPlain,rProgram]
   rw[e]
   exact qu_34_68 B b0 r p f at_ w h hl ht
  have n34:b.toNat≠34:=nn hb34
  have e:rPlain ((68,p)::r) f 68 b at_=(((68,p)::r),f):=by simp[rPlain,rProgram,n92,n36,n96,n34]
  rw[e]
  exact qu_no_68 B b0 r p b f at_ w h hl (bf b 92 hb92) (bf b 36 hb36) (bf b 96 hb96) (bf b 34 hb34)
theorem quoted_73 (B b0:Nat) (r:Stk) (p:Int) (b:UInt8) (f:Bool) (at_:Int) (w:World) (h:Mach w B b0 ((73,p)::r) f at_) (hl:r.length≤99990) (ht:r≠[]) :
    Calls Tryz.prog 154 #[.pointer (some ⟨b0,0,none⟩),.int .i64 8,.int .u8 (b.toNat:Int)] w (Mo w B b0 (.tuple #[]) (rPlain ((73,p)::r) f 73 b at_).1 (rPlain ((73,p)::r) f 73 b at_).2 at_):=by
  rcases Decidable.em (b=92) with rfl|hb92
  ·have e:rPlain ((73,p)::r) f 73 92 at_=(((88,at_)::(73,p)::r),f):=by simp[rPlain,rProgram]
   rw[e]
   exact qu_yes B b0 r p 8 73 92 88 f at_ w h hl (by decide)
  have n92:b.toNat≠92:=nn hb92
  rcases Decidable.em (b=36) with rfl|hb36
  ·have e:rPlain ((73,p)::r) f 73 36 at_=(((76,at_)::(73,p)::r),f):=by simp[rPlain,rProgram]
   rw[e]
   exact qu_yes B b0 r p 8 73 36 76 f at_ w h hl (by decide)
  have n36:b.toNat≠36:=nn hb36
  rcases Decidable.em (b=96) with rfl|hb96
  ·have e:rPlain ((73,p)::r) f 73 96 at_=(((66,at_)::(73,p)::r),f):=by simp[rPlain,rProgram]
   rw[e]
   exact qu_yes B b0 r p 8 73 96 66 f at_ w h hl (by decide)
  have n96:b.toNat≠96:=nn hb96
  rcases Decidable.em (b=34) with rfl|hb34
  ·have e:rPlain ((73,p)::r) f 73 34 at_=(((68,at_)::(73,p)::r),f):=by simp[rPlain,rProgram]
   rw[e]
   exact qu_34_x B b0 r p 8 73 f at_ w h hl rfl
  have n34:b.toNat≠34:=nn hb34
  rcases Decidable.em (b=125) with rfl|hb125
  ·have e:rPlain ((73,p)::r) f 73 125 at_=(r,f):=by simp[rPlain,rProgram]
   rw[e]
   exact qu_125_x B b0 r p 8 73 f at_ w h hl rfl rfl ht
  have n125:b.toNat≠125:=nn hb125
  have e:rPlain ((73,p)::r) f 73 b at_=(((73,p)::r),f):=by simp[rPlain,rProgram,n92,n36,n96,n34,n125]
  rw[e]
  exact qu_no_73 B b0 r p b f at_ w h hl (bf b 92 hb92) (bf b 36 hb36) (bf b 96 hb96) (bf b 34 hb34) (bf b 125 hb125)
theorem quoted_86 (B b0:Nat) (r:Stk) (p:Int) (b:UInt8) (f:Bool) (at_:Int) (w:World) (h:Mach w B b0 ((86,p)::r) f at_) (hl:r.length≤99990) (ht:r≠[]) :
    Calls Tryz.prog 154 #[.pointer (some ⟨b0,0,none⟩),.int .i64 7,.int .u8 (b.toNat:Int)] w (Mo w B b0 (.tuple #[]) (rPlain ((86,p)::r) f 86 b at_).1 (rPlain ((86,p)::r) f 86 b at_).2 at_):=by
  rcases Decidable.em (b=92) with rfl|hb92
  ·have e:rPlain ((86,p)::r) f 86 92 at_=(((88,at_)::(86,p)::r),f):=by simp[rPlain,rProgram]
   rw[e]
   exact qu_yes B b0 r p 7 86 92 88 f at_ w h hl (by decide)
  have n92:b.toNat≠92:=nn hb92
  rcases Decidable.em (b=36) with rfl|hb36
  ·have e:rPlain ((86,p)::r) f 86 36 at_=(((76,at_)::(86,p)::r),f):=by simp[rPlain,rProgram]
   rw[e]
   exact qu_yes B b0 r p 7 86 36 76 f at_ w h hl (by decide)
  have n36:b.toNat≠36:=nn hb36
  rcases Decidable.em (b=96) with rfl|hb96
  ·have e:rPlain ((86,p)::r) f 86 96 at_=(((66,at_)::(86,p)::r),f):=by simp[rPlain,rProgram]
   rw[e]
   exact qu_yes B b0 r p 7 86 96 66 f at_ w h hl (by decide)
  have n96:b.toNat≠96:=nn hb96
  rcases Decidable.em (b=34) with rfl|hb34
  ·have e:rPlain ((86,p)::r) f 86 34 at_=(((68,at_)::(86,p)::r),f):=by simp[rPlain,rProgram]
   rw[e]
   exact qu_34_x B b0 r p 7 86 f at_ w h hl rfl
  have n34:b.toNat≠34:=nn hb34
  rcases Decidable.em (b=125) with rfl|hb125
  ·have e:rPlain ((86,p)::r) f 86 125 at_=(r,f):=by simp[rPlain,rProgram]
   rw[e]
   exact qu_125_x B b0 r p 7 86 f at_ w h hl rfl rfl ht
  have n125:b.toNat≠125:=nn hb125
  rcases Decidable.em (b=39) with rfl|hb39
  ·have e:rPlain ((86,p)::r) f 86 39 at_=(((83,at_)::(86,p)::r),f):=by simp[rPlain,rProgram]
   rw[e]
   exact qu_39_86 B b0 r p f at_ w h hl
  have n39:b.toNat≠39:=nn hb39
  have e:rPlain ((86,p)::r) f 86 b at_=(((86,p)::r),f):=by simp[rPlain,rProgram,n92,n36,n96,n34,n125,n39]
  rw[e]
  exact qu_no_86 B b0 r p b f at_ w h hl (bf b 92 hb92) (bf b 36 hb36) (bf b 96 hb96) (bf b 34 hb34) (bf b 125 hb125) (bf b 39 hb39)
theorem program_84 (B b0:Nat) (r:Stk) (p:Int) (b:UInt8) (f:Bool) (at_:Int) (w:World) (h:Mach w B b0 ((84,p)::r) f at_) (hl:r.length≤99990) :
    Calls Tryz.prog 151 #[.pointer (some ⟨b0,0,none⟩),.int .i64 0,.int .u8 (b.toNat:Int)] w (Mo w B b0 (.tuple #[]) (rPlain ((84,p)::r) f 84 b at_).1 (rPlain ((84,p)::r) f 84 b at_).2 at_):=by
  rcases Decidable.em (b=92) with rfl|hb92
  ·have e:rPlain ((84,p)::r) f 84 92 at_=(((88,at_)::(84,p)::r),f):=by simp[rPlain,rProgram]
   rw[e]
   exact pr_92 B b0 r p 0 84 f at_ w h hl
  have n92:b.toNat≠92:=nn hb92
  rcases Decidable.em (b=39) with rfl|hb39
  ·have e:rPlain ((84,p)::r) f 84 39 at_=(((83,at_)::(84,p)::r),false):=by simp[rPlain,rProgram]
   rw[e]
   exact pr_39 B b0 r p 0 84 f at_ w h hl
  have n39:b.toNat≠39:=nn hb39
  rcases Decidable.em (b=34) with rfl|hb34
  ·have e:rPlain ((84,p)::r) f 84 34 at_=(((68,at_)::(84,p)::r),false):=by simp[rPlain,rProgram]
   rw[e]
   exact pr_34 B b0 r p 0 84 f at_ w h hl
  have n34:b.toNat≠34:=nn hb34
  rcases Decidable.em (b=96) with rfl|hb96
  ·have e:rPlain ((84,p)::r) f 84 96 at_=(((66,at_)::(84,p)::r),false):=by simp[rPlain,rProgram]
   rw[e]
   exact pr_96 B b0 r p 0 84 f at_ w h hl
  have n96:b.toNat≠96:=nn hb96
  rcases Decidable.em (b=36) with rfl|hb36
  ·have e:rPlain ((84,p)::r) f 84 36 at_=(((76,at_)::(84,p)::r),false):=by simp[rPlain,rProgram]
   rw[e]
   exact pr_36 B b0 r p 0 84 f at_ w h hl
  have n36:b.toNat≠36:=nn hb36
  rcases Decidable.em (b=40) with rfl|hb40
  ·have e:rPlain ((84,p)::r) f 84 40 at_=(((84,p)::r),true):=by simp[rPlain,rProgram]
   rw[e]
   exact pr_40t B b0 r p 84 f at_ w h hl
  have n40:b.toNat≠40:=nn hb40
  rcases Decidable.em (b=41) with rfl|hb41
  ·have e:rPlain ((84,p)::r) f 84 41 at_=(((84,p)::r),true):=by simp[rPlain,rProgram]
   rw[e]
   exact pr_41t B b0 r p 84 f at_ w h hl
  have n41:b.toNat≠41:=nn hb41
  rcases Decidable.em (b=35) with rfl|hb35
  ·cases f
   ·have e:rPlain ((84,p)::r) false 84 35 at_=(((84,p)::r),false):=by simp[rPlain,rProgram,endsB,clsOf]
    rw[e]
    exact pr_35f B b0 r p 0 84 false at_ w h hl
   ·have e:rPlain ((84,p)::r) true 84 35 at_=(((35,at_)::(84,p)::r),true):=by simp[rPlain,rProgram]
    rw[e]
    exact pr_35t B b0 r p 0 84 true at_ w h hl
  have n35:b.toNat≠35:=nn hb35
  have e:rPlain ((84,p)::r) f 84 b at_=(((84,p)::r),endsB b):=by simp[rPlain,rProgram,n92,n39,n34,n96,n36,n40,n41,n35]
  rw[e]
  exact pr_no B b0 r p 0 84 b f at_ w h hl (bf b 92 hb92) (bf b 39 hb39) (bf b 34 hb34) (bf b 96 hb96) (bf b 36 hb36) (bf b 35 hb35) (bf b 40 hb40) (bf b 41 hb41)
theorem program_67 (B b0:Nat) (r:Stk) (p:Int) (b:UInt8) (f:Bool) (at_:Int) (w:World) (h:Mach w B b0 ((67,p)::r) f at_) (hl:r.length≤99990) (ht:r≠[]) :
    Calls Tryz.prog 151 #[.pointer (some ⟨b0,0,none⟩),.int .i64 1,.int .u8 (b.toNat:Int)] w (Mo w B b0 (.tuple #[]) (rPlain ((67,p)::r) f 67 b at_).1 (rPlain ((67,p)::r) f 67 b at_).2 at_):=by
  rcases Decidable.em (b=92) with rfl|hb92
  ·have e:rPlain ((67,p)::r) f 67 92 at_=(((88,at_)::(67,p)::r),f):=by simp[rPlain,rProgram]
   rw[e]
   exact pr_92 B b0 r p 1 67 f at_ w h hl
  have n92:b.toNat≠92:=nn hb92
  rcases Decidable.em (b=39) with rfl|hb39
  ·have e:rPlain ((67,p)::r) f 67 39 at_=(((83,at_)::(67,p)::r),false):=by simp[rPlain,rProgram]
   rw[e]
   exact pr_39 B b0 r p 1 67 f at_ w h hl
  have n39:b.toNat≠39:=nn hb39
  rcases Decidable.em (b=34) with rfl|hb34
  ·have e:rPlain ((67,p)::r) f 67 34 at_=(((68,at_)::(67,p)::r),false):=by simp[rPlain,rProgram]
   rw[e]
   exact pr_34 B b0 r p 1 67 f at_ w h hl
  have n34:b.toNat≠34:=nn hb34
  rcases Decidable.em (b=96) with rfl|hb96
  ·have e:rPlain ((67,p)::r) f 67 96 at_=(((66,at_)::(67,p)::r),false):=by simp[rPlain,rProgram]
   rw[e]
   exact pr_96 B b0 r p 1 67 f at_ w h hl
  have n96:b.toNat≠96:=nn hb96
  rcases Decidable.em (b=36) with rfl|hb36
  ·have e:rPlain ((67,p)::r) f 67 36 at_=(((76,at_)::(67,p)::r),false):=by simp[rPlain,rProgram]
   rw[e]
   exact pr_36 B b0 r p 1 67 f at_ w h hl
  have n36:b.toNat≠36:=nn hb36
  rcases Decidable.em (b=40) with rfl|hb40
  ·have e:rPlain ((67,p)::r) f 67 40 at_=(((80,at_)::(67,p)::r),true):=by simp[rPlain,rProgram]
   rw[e]
   exact pr_40_1 B b0 r p 67 f at_ w h hl
  have n40:b.toNat≠40:=nn hb40
  rcases Decidable.em (b=41) with rfl|hb41
  ·have e:rPlain ((67,p)::r) f 67 41 at_=(r,false):=by simp[rPlain,rProgram]
   rw[e]
   exact pr_41_1 B b0 r p 67 f at_ w h hl ht
  have n41:b.toNat≠41:=nn hb41
  rcases Decidable.em (b=35) with rfl|hb35
  ·cases f
   ·have e:rPlain ((67,p)::r) false 67 35 at_=(((67,p)::r),false):=by simp[rPlain,rProgram,endsB,clsOf]
    rw[e]
    exact pr_35f B b0 r p 1 67 false at_ w h hl
   ·have e:rPlain ((67,p)::r) true 67 35 at_=(((35,at_)::(67,p)::r),true):=by simp[rPlain,rProgram]
    rw[e]
    exact pr_35t B b0 r p 1 67 true at_ w h hl
  have n35:b.toNat≠35:=nn hb35
  have e:rPlain ((67,p)::r) f 67 b at_=(((67,p)::r),endsB b):=by simp[rPlain,rProgram,n92,n39,n34,n96,n36,n40,n41,n35]
  rw[e]
  exact pr_no B b0 r p 1 67 b f at_ w h hl (bf b 92 hb92) (bf b 39 hb39) (bf b 34 hb34) (bf b 96 hb96) (bf b 36 hb36) (bf b 35 hb35) (bf b 40 hb40) (bf b 41 hb41)
theorem program_80 (B b0:Nat) (r:Stk) (p:Int) (b:UInt8) (f:Bool) (at_:Int) (w:World) (h:Mach w B b0 ((80,p)::r) f at_) (hl:r.length≤99990) (ht:r≠[]) :
    Calls Tryz.prog 151 #[.pointer (some ⟨b0,0,none⟩),.int .i64 2,.int .u8 (b.toNat:Int)] w (Mo w B b0 (.tuple #[]) (rPlain ((80,p)::r) f 80 b at_).1 (rPlain ((80,p)::r) f 80 b at_).2 at_):=by
  rcases Decidable.em (b=92) with rfl|hb92
  ·have e:rPlain ((80,p)::r) f 80 92 at_=(((88,at_)::(80,p)::r),f):=by simp[rPlain,rProgram]
   rw[e]
   exact pr_92 B b0 r p 2 80 f at_ w h hl
  have n92:b.toNat≠92:=nn hb92
  rcases Decidable.em (b=39) with rfl|hb39
  ·have e:rPlain ((80,p)::r) f 80 39 at_=(((83,at_)::(80,p)::r),false):=by simp[rPlain,rProgram]
   rw[e]
   exact pr_39 B b0 r p 2 80 f at_ w h hl
  have n39:b.toNat≠39:=nn hb39
  rcases Decidable.em (b=34) with rfl|hb34
  ·have e:rPlain ((80,p)::r) f 80 34 at_=(((68,at_)::(80,p)::r),false):=by simp[rPlain,rProgram]
   rw[e]
   exact pr_34 B b0 r p 2 80 f at_ w h hl
  have n34:b.toNat≠34:=nn hb34
  rcases Decidable.em (b=96) with rfl|hb96
  ·have e:rPlain ((80,p)::r) f 80 96 at_=(((66,at_)::(80,p)::r),false):=by simp[rPlain,rProgram]
   rw[e]
   exact pr_96 B b0 r p 2 80 f at_ w h hl
  have n96:b.toNat≠96:=nn hb96
  rcases Decidable.em (b=36) with rfl|hb36
  ·have e:rPlain ((80,p)::r) f 80 36 at_=(((76,at_)::(80,p)::r),false):=by simp[rPlain,rProgram]
   rw[e]
   exact pr_36 B b0 r p 2 80 f at_ w h hl
  have n36:b.toNat≠36:=nn hb36
  rcases Decidable.em (b=40) with rfl|hb40
  ·have e:rPlain ((80,p)::r) f 80 40 at_=(((80,at_)::(80,p)::r),true):=by simp[rPlain,rProgram]
   rw[e]
   exact pr_40_2 B b0 r p 80 f at_ w h hl
  have n40:b.toNat≠40:=nn hb40
  rcases Decidable.em (b=41) with rfl|hb41
  ·have e:rPlain ((80,p)::r) f 80 41 at_=(r,true):=by simp[rPlain,rProgram]
   rw[e]
   exact pr_41_2 B b0 r p 80 f at_ w h hl ht
  have n41:b.toNat≠41:=nn hb41
  rcases Decidable.em (b=35) with rfl|hb35
  ·cases f
   ·have e:rPlain ((80,p)::r) false 80 35 at_=(((80,p)::r),false):=by simp[rPlain,rProgram,endsB,clsOf]
    rw[e]
    exact pr_35f B b0 r p 2 80 false at_ w h hl
   ·have e:rPlain ((80,p)::r) true 80 35 at_=(((35,at_)::(80,p)::r),true):=by simp[rPlain,rProgram]
    rw[e]
    exact pr_35t B b0 r p 2 80 true at_ w h hl
  have n35:b.toNat≠35:=nn hb35
  have e:rPlain ((80,p)::r) f 80 b at_=(((80,p)::r),endsB b):=by simp[rPlain,rProgram,n92,n39,n34,n96,n36,n40,n41,n35]
  rw[e]
  exact pr_no B b0 r p 2 80 b f at_ w h hl (bf b 92 hb92) (bf b 39 hb39) (bf b 34 hb34) (bf b 96 hb96) (bf b 36 hb36) (bf b 35 hb35) (bf b 40 hb40) (bf b 41 hb41)
end Go.Proofs.YtlbfdbinaekjoaaGreatDoor
namespace Go.Proofs.YtlbfdbinaekjoaaGreatDoor
open Go.RowKit
set_option linter.unusedVariables false
set_option linter.unusedSimpArgs false
set_option maxRecDepth 100000
set_option maxHeartbeats 1000000 in
theorem pn_84 (B b:Nat) (r:Stk) (p:Int) (c:UInt8) (f:Bool) (at_:Int) (w:World) (h:Mach w B b ((84,p)::r) f at_) (hl:r.length≤99990) :
    Calls Tryz.prog 128 #[.pointer (some ⟨b,0,none⟩),.int .i64 0,.int .u8 ((c:UInt8).toNat:Int)] w (Mo w B b (.tuple #[]) (rPlain ((84,p)::r) f 84 c at_).1 (rPlain ((84,p)::r) f 84 c at_).2 at_):=by
  obtain⟨x0,x1,x2,x3,x4⟩:=h.cells
  have HM:=Lib.hid h
  clear h
  go_enter Tryz.func128,Tryz.ntmps128
  go_wp2_with (first
    | (go_at_call 151
       refine(program_84 B b r p _ _ _ _ HM.out hl).mono ?_
       rintro e w1 ⟨rfl,hm1,hb1⟩
       obtain⟨x0,x1,x2,x3,x4⟩:=hm1.cells
       have q1:BM B w w1:=hb1
       have HM1:=Lib.hid hm1
       clear hm1))
  all_goals go_returns
  all_goals first
    | exact mo_mk HM1.out q1 rfl rfl
    | exact mo_mk (HM1.out.setFresh _) (BM.setCell q1 HM1.out _) rfl rfl
set_option maxHeartbeats 1000000 in
theorem pn_67 (B b:Nat) (r:Stk) (p:Int) (c:UInt8) (f:Bool) (at_:Int) (w:World) (h:Mach w B b ((67,p)::r) f at_) (hl:r.length≤99990) (ht:r≠[]) :
    Calls Tryz.prog 128 #[.pointer (some ⟨b,0,none⟩),.int .i64 1,.int .u8 ((c:UInt8).toNat:Int)] w (Mo w B b (.tuple #[]) (rPlain ((67,p)::r) f 67 c at_).1 (rPlain ((67,p)::r) f 67 c at_).2 at_):=by
  obtain⟨x0,x1,x2,x3,x4⟩:=h.cells
  have HM:=Lib.hid h
  clear h
  go_enter Tryz.func128,Tryz.ntmps128
  go_wp2_with (first
    | (go_at_call 151
       refine(program_67 B b r p _ _ _ _ HM.out hl ht).mono ?_
       rintro e w1 ⟨rfl,hm1,hb1⟩
       obtain⟨x0,x1,x2,x3,x4⟩:=hm1.cells
       have q1:BM B w w1:=hb1
       have HM1:=Lib.hid hm1
       clear hm1))
  all_goals go_returns
  all_goals first
    | exact mo_mk HM1.out q1 rfl rfl
    | exact mo_mk (HM1.out.setFresh _) (BM.setCell q1 HM1.out _) rfl rfl
set_option maxHeartbeats 1000000 in
theorem pn_80 (B b:Nat) (r:Stk) (p:Int) (c:UInt8) (f:Bool) (at_:Int) (w:World) (h:Mach w B b ((80,p)::r) f at_) (hl:r.length≤99990) (ht:r≠[]) :
    Calls Tryz.prog 128 #[.pointer (some ⟨b,0,none⟩),.int .i64 2,.int .u8 ((c:UInt8).toNat:Int)] w (Mo w B b (.tuple #[]) (rPlain ((80,p)::r) f 80 c at_).1 (rPlain ((80,p)::r) f 80 c at_).2 at_):=by
  obtain⟨x0,x1,x2,x3,x4⟩:=h.cells
  have HM:=Lib.hid h
  clear h
  go_enter Tryz.func128,Tryz.ntmps128
  go_wp2_with (first
    | (go_at_call 151
       refine(program_80 B b r p _ _ _ _ HM.out hl ht).mono ?_
       rintro e w1 ⟨rfl,hm1,hb1⟩
       obtain⟨x0,x1,x2,x3,x4⟩:=hm1.cells
       have q1:BM B w w1:=hb1
       have HM1:=Lib.hid hm1
       clear hm1))
  all_goals go_returns
  all_goals first
    | exact mo_mk HM1.out q1 rfl rfl
    | exact mo_mk (HM1.out.setFresh _) (BM.setCell q1 HM1.out _) rfl rfl
set_option maxHeartbeats 1000000 in
theorem pn_65 (B b:Nat) (r:Stk) (p:Int) (c:UInt8) (f:Bool) (at_:Int) (w:World) (h:Mach w B b ((65,p)::r) f at_) (hl:r.length≤99990) (ht:r≠[]) :
    Calls Tryz.prog 128 #[.pointer (some ⟨b,0,none⟩),.int .i64 9,.int .u8 ((c:UInt8).toNat:Int)] w (Mo w B b (.tuple #[]) (rPlain ((65,p)::r) f 65 c at_).1 (rPlain ((65,p)::r) f 65 c at_).2 at_):=by
  obtain⟨x0,x1,x2,x3,x4⟩:=h.cells
  have HM:=Lib.hid h
  clear h
  go_enter Tryz.func128,Tryz.ntmps128
  go_wp2_with (first
    | (go_at_call 153
       refine(arith_65 B b r p _ _ _ _ HM.out hl ht).mono ?_
       rintro e w1 ⟨rfl,hm1,hb1⟩
       obtain⟨x0,x1,x2,x3,x4⟩:=hm1.cells
       have q1:BM B w w1:=hb1
       have HM1:=Lib.hid hm1
       clear hm1))
  all_goals go_returns
  all_goals first
    | exact mo_mk HM1.out q1 rfl rfl
    | exact mo_mk (HM1.out.setFresh _) (BM.setCell q1 HM1.out _) rfl rfl
set_option maxHeartbeats 1000000 in
theorem pn_82 (B b:Nat) (r:Stk) (p:Int) (c:UInt8) (f:Bool) (at_:Int) (w:World) (h:Mach w B b ((82,p)::r) f at_) (hl:r.length≤99990) (ht:r≠[]) :
    Calls Tryz.prog 128 #[.pointer (some ⟨b,0,none⟩),.int .i64 10,.int .u8 ((c:UInt8).toNat:Int)] w (Mo w B b (.tuple #[]) (rPlain ((82,p)::r) f 82 c at_).1 (rPlain ((82,p)::r) f 82 c at_).2 at_):=by
  obtain⟨x0,x1,x2,x3,x4⟩:=h.cells
  have HM:=Lib.hid h
  clear h
  go_enter Tryz.func128,Tryz.ntmps128
  go_wp2_with (first
    | (go_at_call 153
       refine(arith_82 B b r p _ _ _ _ HM.out hl ht).mono ?_
       rintro e w1 ⟨rfl,hm1,hb1⟩
       obtain⟨x0,x1,x2,x3,x4⟩:=hm1.cells
       have q1:BM B w w1:=hb1
       have HM1:=Lib.hid hm1
       clear hm1))
  all_goals go_returns
  all_goals first
    | exact mo_mk HM1.out q1 rfl rfl
    | exact mo_mk (HM1.out.setFresh _) (BM.setCell q1 HM1.out _) rfl rfl
set_option maxHeartbeats 1000000 in
theorem pn_68 (B b:Nat) (r:Stk) (p:Int) (c:UInt8) (f:Bool) (at_:Int) (w:World) (h:Mach w B b ((68,p)::r) f at_) (hl:r.length≤99990) (ht:r≠[]) :
    Calls Tryz.prog 128 #[.pointer (some ⟨b,0,none⟩),.int .i64 5,.int .u8 ((c:UInt8).toNat:Int)] w (Mo w B b (.tuple #[]) (rPlain ((68,p)::r) f 68 c at_).1 (rPlain ((68,p)::r) f 68 c at_).2 at_):=by
  obtain⟨x0,x1,x2,x3,x4⟩:=h.cells
  have HM:=Lib.hid h
  clear h
  go_enter Tryz.func128,Tryz.ntmps128
  go_wp2_with (first
    | (go_at_call 154
       refine(quoted_68 B b r p _ _ _ _ HM.out hl ht).mono ?_
       rintro e w1 ⟨rfl,hm1,hb1⟩
       obtain⟨x0,x1,x2,x3,x4⟩:=hm1.cells
       have q1:BM B w w1:=hb1
       have HM1:=Lib.hid hm1
       clear hm1))
  all_goals go_returns
  all_goals first
    | exact mo_mk HM1.out q1 rfl rfl
    | exact mo_mk (HM1.out.setFresh _) (BM.setCell q1 HM1.out _) rfl rfl
set_option maxHeartbeats 1000000 in
theorem pn_73 (B b:Nat) (r:Stk) (p:Int) (c:UInt8) (f:Bool) (at_:Int) (w:World) (h:Mach w B b ((73,p)::r) f at_) (hl:r.length≤99990) (ht:r≠[]) :
    Calls Tryz.prog 128 #[.pointer (some ⟨b,0,none⟩),.int .i64 8,.int .u8 ((c:UInt8).toNat:Int)] w (Mo w B b (.tuple #[]) (rPlain ((73,p)::r) f 73 c at_).1 (rPlain ((73,p)::r) f 73 c at_).2 at_):=by
  obtain⟨x0,x1,x2,x3,x4⟩:=h.cells
  have HM:=Lib.hid h
  clear h
  go_enter Tryz.func128,Tryz.ntmps128
  go_wp2_with (first
    | (go_at_call 154
       refine(quoted_73 B b r p _ _ _ _ HM.out hl ht).mono ?_
       rintro e w1 ⟨rfl,hm1,hb1⟩
       obtain⟨x0,x1,x2,x3,x4⟩:=hm1.cells
       have q1:BM B w w1:=hb1
       have HM1:=Lib.hid hm1
       clear hm1))
  all_goals go_returns
  all_goals first
    | exact mo_mk HM1.out q1 rfl rfl
    | exact mo_mk (HM1.out.setFresh _) (BM.setCell q1 HM1.out _) rfl rfl
set_option maxHeartbeats 1000000 in
theorem pn_86 (B b:Nat) (r:Stk) (p:Int) (c:UInt8) (f:Bool) (at_:Int) (w:World) (h:Mach w B b ((86,p)::r) f at_) (hl:r.length≤99990) (ht:r≠[]) :
    Calls Tryz.prog 128 #[.pointer (some ⟨b,0,none⟩),.int .i64 7,.int .u8 ((c:UInt8).toNat:Int)] w (Mo w B b (.tuple #[]) (rPlain ((86,p)::r) f 86 c at_).1 (rPlain ((86,p)::r) f 86 c at_).2 at_):=by
  obtain⟨x0,x1,x2,x3,x4⟩:=h.cells
  have HM:=Lib.hid h
  clear h
  go_enter Tryz.func128,Tryz.ntmps128
  go_wp2_with (first
    | (go_at_call 154
       refine(quoted_86 B b r p _ _ _ _ HM.out hl ht).mono ?_
       rintro e w1 ⟨rfl,hm1,hb1⟩
       obtain⟨x0,x1,x2,x3,x4⟩:=hm1.cells
       have q1:BM B w w1:=hb1
       have HM1:=Lib.hid hm1
       clear hm1))
  all_goals go_returns
  all_goals first
    | exact mo_mk HM1.out q1 rfl rfl
    | exact mo_mk (HM1.out.setFresh _) (BM.setCell q1 HM1.out _) rfl rfl
set_option maxHeartbeats 1000000 in
theorem pn_88_10t (B b:Nat) (r:Stk) (p:Int) (f:Bool) (at_:Int) (w:World) (h:Mach w B b ((88,p)::r) true at_) (hl:r.length≤99990) (ht:r≠[]) :
    Calls Tryz.prog 128 #[.pointer (some ⟨b,0,none⟩),.int .i64 13,.int .u8 ((10:UInt8).toNat:Int)] w (Mo w B b (.tuple #[]) r true at_):=by
  obtain⟨x0,x1,x2,x3,x4⟩:=h.cells
  have HM:=Lib.hid h
  clear h
  go_enter Tryz.func128,Tryz.ntmps128
  go_wp2_with (first
    | (go_at_call 127
       with_reducible refine(shut_m B b _ _ _ _ _ _ HM.out ht).mono ?_
       rintro e w1 ⟨rfl,hm1,hb1⟩
       obtain⟨x0,x1,x2,x3,x4⟩:=hm1.cells
       have q1:BM B w w1:=hb1
       have HM1:=Lib.hid hm1
       clear hm1))
  all_goals go_returns
  all_goals first
    | exact mo_mk HM1.out q1 rfl rfl
    | exact mo_mk (HM1.out.setFresh _) (BM.setCell q1 HM1.out _) rfl rfl
set_option maxHeartbeats 1000000 in
theorem pn_88_xt (B b:Nat) (r:Stk) (p:Int) (c:UInt8) (f:Bool) (at_:Int) (w:World) (h:Mach w B b ((88,p)::r) true at_) (hl:r.length≤99990) (ht:r≠[]) (hc10:((c.toNat:Int)==10)=false) :
    Calls Tryz.prog 128 #[.pointer (some ⟨b,0,none⟩),.int .i64 13,.int .u8 ((c:UInt8).toNat:Int)] w (Mo w B b (.tuple #[]) r false at_):=by
  obtain⟨x0,x1,x2,x3,x4⟩:=h.cells
  have HM:=Lib.hid h
  clear h
  go_enter Tryz.func128,Tryz.ntmps128
  go_wp2_with (first
    | (go_at_call 127
       with_reducible refine(shut_m B b _ _ _ _ _ _ HM.out ht).mono ?_
       rintro e w1 ⟨rfl,hm1,hb1⟩
       obtain⟨x0,x1,x2,x3,x4⟩:=hm1.cells
       have q1:BM B w w1:=hb1
       have HM1:=Lib.hid hm1
       clear hm1))
  all_goals go_returns
  all_goals first
    | exact mo_mk HM1.out q1 rfl rfl
    | exact mo_mk (HM1.out.setFresh _) (BM.setCell q1 HM1.out _) rfl rfl
set_option maxHeartbeats 1000000 in
theorem pn_88_10f (B b:Nat) (r:Stk) (p:Int) (f:Bool) (at_:Int) (w:World) (h:Mach w B b ((88,p)::r) false at_) (hl:r.length≤99990) (ht:r≠[]) :
    Calls Tryz.prog 128 #[.pointer (some ⟨b,0,none⟩),.int .i64 13,.int .u8 ((10:UInt8).toNat:Int)] w (Mo w B b (.tuple #[]) r false at_):=by
  obtain⟨x0,x1,x2,x3,x4⟩:=h.cells
  have HM:=Lib.hid h
  clear h
  go_enter Tryz.func128,Tryz.ntmps128
  go_wp2_with (first
    | (go_at_call 127
       with_reducible refine(shut_m B b _ _ _ _ _ _ HM.out ht).mono ?_
       rintro e w1 ⟨rfl,hm1,hb1⟩
       obtain⟨x0,x1,x2,x3,x4⟩:=hm1.cells
       have q1:BM B w w1:=hb1
       have HM1:=Lib.hid hm1
       clear hm1))
  all_goals go_returns
  all_goals first
    | exact mo_mk HM1.out q1 rfl rfl
    | exact mo_mk (HM1.out.setFresh _) (BM.setCell q1 HM1.out _) rfl rfl
set_option maxHeartbeats 1000000 in
theorem pn_88_xf (B b:Nat) (r:Stk) (p:Int) (c:UInt8) (f:Bool) (at_:Int) (w:World) (h:Mach w B b ((88,p)::r) false at_) (hl:r.length≤99990) (ht:r≠[]) (hc10:((c.toNat:Int)==10)=false) :
    Calls Tryz.prog 128 #[.pointer (some ⟨b,0,none⟩),.int .i64 13,.int .u8 ((c:UInt8).toNat:Int)] w (Mo w B b (.tuple #[]) r false at_):=by
  obtain⟨x0,x1,x2,x3,x4⟩:=h.cells
  have HM:=Lib.hid h
  clear h
  go_enter Tryz.func128,Tryz.ntmps128
  go_wp2_with (first
    | (go_at_call 127
       with_reducible refine(shut_m B b _ _ _ _ _ _ HM.out ht).mono ?_
       rintro e w1 ⟨rfl,hm1,hb1⟩
       obtain⟨x0,x1,x2,x3,x4⟩:=hm1.cells
       have q1:BM B w w1:=hb1
       have HM1:=Lib.hid hm1
       clear hm1))
  all_goals go_returns
  all_goals first
    | exact mo_mk HM1.out q1 rfl rfl
    | exact mo_mk (HM1.out.setFresh _) (BM.setCell q1 HM1.out _) rfl rfl
set_option maxHeartbeats 1000000 in
theorem pn_83_39 (B b:Nat) (r:Stk) (p:Int) (f:Bool) (at_:Int) (w:World) (h:Mach w B b ((83,p)::r) f at_) (hl:r.length≤99990) (ht:r≠[]) :
    Calls Tryz.prog 128 #[.pointer (some ⟨b,0,none⟩),.int .i64 4,.int .u8 ((39:UInt8).toNat:Int)] w (Mo w B b (.tuple #[]) r f at_):=by
  obtain⟨x0,x1,x2,x3,x4⟩:=h.cells
  have HM:=Lib.hid h
  clear h
  go_enter Tryz.func128,Tryz.ntmps128
  go_wp2_with (first
    | (go_at_call 127
       with_reducible refine(shut_m B b _ _ _ _ _ _ HM.out ht).mono ?_
       rintro e w1 ⟨rfl,hm1,hb1⟩
       obtain⟨x0,x1,x2,x3,x4⟩:=hm1.cells
       have q1:BM B w w1:=hb1
       have HM1:=Lib.hid hm1
       clear hm1))
  all_goals go_returns
  all_goals first
    | exact mo_mk HM1.out q1 rfl rfl
    | exact mo_mk (HM1.out.setFresh _) (BM.setCell q1 HM1.out _) rfl rfl
set_option maxHeartbeats 1000000 in
theorem pn_83_x (B b:Nat) (r:Stk) (p:Int) (c:UInt8) (f:Bool) (at_:Int) (w:World) (h:Mach w B b ((83,p)::r) f at_) (hl:r.length≤99990) (hc39:((c.toNat:Int)==39)=false) :
    Calls Tryz.prog 128 #[.pointer (some ⟨b,0,none⟩),.int .i64 4,.int .u8 ((c:UInt8).toNat:Int)] w (Mo w B b (.tuple #[]) ((83,p)::r) f at_):=by
  obtain⟨x0,x1,x2,x3,x4⟩:=h.cells
  have HM:=Lib.hid h
  clear h
  go_enter Tryz.func128,Tryz.ntmps128
  go_wp2_with fail
  all_goals go_returns
  all_goals first
    | exact mo_mk HM.out (BM.refl _ _) rfl rfl
    | exact mo_mk (HM.out.setFresh _) (BM.setCell (BM.refl _ _) HM.out _) rfl rfl
set_option maxHeartbeats 1000000 in
theorem pn_35_10 (B b:Nat) (r:Stk) (p:Int) (f:Bool) (at_:Int) (w:World) (h:Mach w B b ((35,p)::r) f at_) (hl:r.length≤99990) (ht:r≠[]) :
    Calls Tryz.prog 128 #[.pointer (some ⟨b,0,none⟩),.int .i64 14,.int .u8 ((10:UInt8).toNat:Int)] w (Mo w B b (.tuple #[]) r true at_):=by
  obtain⟨x0,x1,x2,x3,x4⟩:=h.cells
  have HM:=Lib.hid h
  clear h
  go_enter Tryz.func128,Tryz.ntmps128
  go_wp2_with (first
    | (go_at_call 127
       with_reducible refine(shut_m B b _ _ _ _ _ _ HM.out ht).mono ?_
       rintro e w1 ⟨rfl,hm1,hb1⟩
       obtain⟨x0,x1,x2,x3,x4⟩:=hm1.cells
       have q1:BM B w w1:=hb1
       have HM1:=Lib.hid hm1
       clear hm1))
  all_goals go_returns
  all_goals first
    | exact mo_mk HM1.out q1 rfl rfl
    | exact mo_mk (HM1.out.setFresh _) (BM.setCell q1 HM1.out _) rfl rfl
set_option maxHeartbeats 1000000 in
theorem pn_35_x (B b:Nat) (r:Stk) (p:Int) (c:UInt8) (f:Bool) (at_:Int) (w:World) (h:Mach w B b ((35,p)::r) f at_) (hl:r.length≤99990) (hc10:((c.toNat:Int)==10)=false) :
    Calls Tryz.prog 128 #[.pointer (some ⟨b,0,none⟩),.int .i64 14,.int .u8 ((c:UInt8).toNat:Int)] w (Mo w B b (.tuple #[]) ((35,p)::r) f at_):=by
  obtain⟨x0,x1,x2,x3,x4⟩:=h.cells
  have HM:=Lib.hid h
  clear h
  go_enter Tryz.func128,Tryz.ntmps128
  go_wp2_with fail
  all_goals go_returns
  all_goals first
    | exact mo_mk HM.out (BM.refl _ _) rfl rfl
    | exact mo_mk (HM.out.setFresh _) (BM.setCell (BM.refl _ _) HM.out _) rfl rfl
set_option maxHeartbeats 1000000 in
theorem pn_66_96 (B b:Nat) (r:Stk) (p:Int) (f:Bool) (at_:Int) (w:World) (h:Mach w B b ((66,p)::r) f at_) (hl:r.length≤99990) (ht:r≠[]) :
    Calls Tryz.prog 128 #[.pointer (some ⟨b,0,none⟩),.int .i64 6,.int .u8 ((96:UInt8).toNat:Int)] w (Mo w B b (.tuple #[]) r f at_):=by
  obtain⟨x0,x1,x2,x3,x4⟩:=h.cells
  have HM:=Lib.hid h
  clear h
  go_enter Tryz.func128,Tryz.ntmps128
  go_wp2_with (first
    | (go_at_call 127
       with_reducible refine(shut_m B b _ _ _ _ _ _ HM.out ht).mono ?_
       rintro e w1 ⟨rfl,hm1,hb1⟩
       obtain⟨x0,x1,x2,x3,x4⟩:=hm1.cells
       have q1:BM B w w1:=hb1
       have HM1:=Lib.hid hm1
       clear hm1))
  all_goals go_returns
  all_goals first
    | exact mo_mk HM1.out q1 rfl rfl
    | exact mo_mk (HM1.out.setFresh _) (BM.setCell q1 HM1.out _) rfl rfl
set_option maxHeartbeats 1000000 in
theorem pn_66_92 (B b:Nat) (r:Stk) (p:Int) (f:Bool) (at_:Int) (w:World) (h:Mach w B b ((66,p)::r) f at_) (hl:r.length≤99990) :
    Calls Tryz.prog 128 #[.pointer (some ⟨b,0,none⟩),.int .i64 6,.int .u8 ((92:UInt8).toNat:Int)] w (Mo w B b (.tuple #[]) ((88,at_)::(66,p)::r) f at_):=by
  obtain⟨x0,x1,x2,x3,x4⟩:=h.cells
  have HM:=Lib.hid h
  clear h
  go_enter Tryz.func128,Tryz.ntmps128
  go_wp2_with (first
    | (go_at_call 152
       with_reducible refine(open_k B b _ _ _ 88 13 _ rfl HM.out (by simp) (by simp at *;omega)).mono ?_
       rintro e w1 ⟨rfl,hm1,hb1⟩
       obtain⟨x0,x1,x2,x3,x4⟩:=hm1.cells
       have q1:BM B w w1:=hb1
       have HM1:=Lib.hid hm1
       clear hm1))
  all_goals go_returns
  all_goals first
    | exact mo_mk HM1.out q1 rfl rfl
    | exact mo_mk (HM1.out.setFresh _) (BM.setCell q1 HM1.out _) rfl rfl
set_option maxHeartbeats 1000000 in
theorem pn_66_x (B b:Nat) (r:Stk) (p:Int) (c:UInt8) (f:Bool) (at_:Int) (w:World) (h:Mach w B b ((66,p)::r) f at_) (hl:r.length≤99990) (hc96:((c.toNat:Int)==96)=false) (hc92:((c.toNat:Int)==92)=false) :
    Calls Tryz.prog 128 #[.pointer (some ⟨b,0,none⟩),.int .i64 6,.int .u8 ((c:UInt8).toNat:Int)] w (Mo w B b (.tuple #[]) ((66,p)::r) f at_):=by
  obtain⟨x0,x1,x2,x3,x4⟩:=h.cells
  have HM:=Lib.hid h
  clear h
  go_enter Tryz.func128,Tryz.ntmps128
  go_wp2_with fail
  all_goals go_returns
  all_goals first
    | exact mo_mk HM.out (BM.refl _ _) rfl rfl
    | exact mo_mk (HM.out.setFresh _) (BM.setCell (BM.refl _ _) HM.out _) rfl rfl
theorem plain_m (B b0:Nat) (r:Stk) (c:UInt8) (p m:Int) (b:UInt8) (f:Bool) (at_:Int) (w:World) (hm:m=modeOf c) (h:Mach w B b0 ((c,p)::r) f at_) (hl:r.length≤99990) (ht:c≠84→r≠[])
    (hc:c=84∨c=67∨c=80∨c=65∨c=82∨c=68∨c=73∨c=86∨c=88∨c=83∨c=35∨c=66) :
    Calls Tryz.prog 128 #[.pointer (some ⟨b0,0,none⟩),.int .i64 m,.int .u8 (b.toNat:Int)] w (Mo w B b0 (.tuple #[]) (rPlain ((c,p)::r) f c b at_).1 (rPlain ((c,p)::r) f c b at_).2 at_):=by
  rcases hc with rfl|rfl|rfl|rfl|rfl|rfl|rfl|rfl|rfl|rfl|rfl|rfl
  ·obtain rfl:m=0:=hm
   exact pn_84 B b0 r p b f at_ w h hl
  ·obtain rfl:m=1:=hm
   exact pn_67 B b0 r p b f at_ w h hl (ht (by decide))
  ·obtain rfl:m=2:=hm
   exact pn_80 B b0 r p b f at_ w h hl (ht (by decide))
  ·obtain rfl:m=9:=hm
   exact pn_65 B b0 r p b f at_ w h hl (ht (by decide))
  ·obtain rfl:m=10:=hm
   exact pn_82 B b0 r p b f at_ w h hl (ht (by decide))
  ·obtain rfl:m=5:=hm
   exact pn_68 B b0 r p b f at_ w h hl (ht (by decide))
  ·obtain rfl:m=8:=hm
   exact pn_73 B b0 r p b f at_ w h hl (ht (by decide))
  ·obtain rfl:m=7:=hm
   exact pn_86 B b0 r p b f at_ w h hl (ht (by decide))
  ·obtain rfl:m=13:=hm
   have ht:=ht (by decide)
   rcases Decidable.em (b=10) with rfl|hb10
   ·have e:rPlain ((88,p)::r) f 88 10 at_=(r,f):=by simp[rPlain]
    rw[e]
    cases f
    ·exact pn_88_10f B b0 r p false at_ w h hl ht
    ·exact pn_88_10t B b0 r p true at_ w h hl ht
   have n10:b.toNat≠10:=nn hb10
   have e:rPlain ((88,p)::r) f 88 b at_=(r,false):=by simp[rPlain,n10]
   rw[e]
   cases f
   ·exact pn_88_xf B b0 r p b false at_ w h hl ht (bf b 10 hb10)
   ·exact pn_88_xt B b0 r p b true at_ w h hl ht (bf b 10 hb10)
  ·obtain rfl:m=4:=hm
   have ht:=ht (by decide)
   rcases Decidable.em (b=39) with rfl|hb39
   ·have e:rPlain ((83,p)::r) f 83 39 at_=(r,f):=by simp[rPlain]
    rw[e]
    exact pn_83_39 B b0 r p f at_ w h hl ht
   have n39:b.toNat≠39:=nn hb39
   have e:rPlain ((83,p)::r) f 83 b at_=(((83,p)::r),f):=by simp[rPlain,n39]
   rw[e]
   exact pn_83_x B b0 r p b f at_ w h hl (bf b 39 hb39)
  ·obtain rfl:m=14:=hm
   have ht:=ht (by decide)
   rcases Decidable.em (b=10) with rfl|hb10
   ·have e:rPlain ((35,p)::r) f 35 10 at_=(r,true):=by simp[rPlain]
    rw[e]
    exact pn_35_10 B b0 r p f at_ w h hl ht
   have n10:b.toNat≠10:=nn hb10
   have e:rPlain ((35,p)::r) f 35 b at_=(((35,p)::r),f):=by simp[rPlain,n10]
   rw[e]
   exact pn_35_x B b0 r p b f at_ w h hl (bf b 10 hb10)
  ·obtain rfl:m=6:=hm
   have ht:=ht (by decide)
   rcases Decidable.em (b=96) with rfl|hb96
   ·have e:rPlain ((66,p)::r) f 66 96 at_=(r,f):=by simp[rPlain]
    rw[e]
    exact pn_66_96 B b0 r p f at_ w h hl ht
   have n96:b.toNat≠96:=nn hb96
   rcases Decidable.em (b=92) with rfl|hb92
   ·have e:rPlain ((66,p)::r) f 66 92 at_=(((88,at_)::(66,p)::r),f):=by simp[rPlain]
    rw[e]
    exact pn_66_92 B b0 r p f at_ w h hl
   have n92:b.toNat≠92:=nn hb92
   have e:rPlain ((66,p)::r) f 66 b at_=(((66,p)::r),f):=by simp[rPlain,n96,n92]
   rw[e]
   exact pn_66_x B b0 r p b f at_ w h hl (bf b 96 hb96) (bf b 92 hb92)
end Go.Proofs.YtlbfdbinaekjoaaGreatDoor
namespace Go.Proofs.YtlbfdbinaekjoaaGreatDoor
open Go.RowKit
set_option linter.unusedVariables false
set_option linter.unusedSimpArgs false
set_option maxRecDepth 100000
theorem Mach.drewN {w:World} {B b:Nat} {st:Stk} {f:Bool} {at_:Int} (h:Mach w B b st f at_) (n:Nat):Mach (w.drewN n) B b st f at_:=h
theorem below_k (B b:Nat) (st:Stk) (f:Bool) (at_ p q:Int) (c d:UInt8) (m:Int) (w:World) (hm:m=modeOf d) (h:Mach w B b ((c,p)::(d,q)::st) f at_) :
    Calls Tryz.prog 150 #[.pointer (some ⟨b,0,none⟩)] w fun e w'=>e=.returned (.int .i64 m)∧∃n,w'=w.drewN n:=by
  subst hm;exact below_m B b st f at_ p q c d w h
set_option maxHeartbeats 1000000 in
theorem do_40 (B b:Nat) (r:Stk) (p q:Int) (d:UInt8) (f:Bool) (at_:Int) (w:World) (h:Mach w B b ((76,p)::(d,q)::r) f at_) (hl:r.length≤99980) :
    Calls Tryz.prog 125 #[.pointer (some ⟨b,0,none⟩),.int .u8 ((40:UInt8).toNat:Int)] w (Mo w B b (.bool true) ((79,p)::(d,q)::r) true at_):=by
  obtain⟨x0,x1,x2,x3,x4⟩:=h.cells
  have HM:=Lib.hid h
  clear h
  go_enter Tryz.func125,Tryz.ntmps125
  go_wp2_with (first
    | (go_at_call 126
       with_reducible refine(become_k B b _ _ _ _ _ 79 3 _ rfl HM.out).mono ?_
       rintro e w1 ⟨rfl,hm1,hb1⟩
       obtain⟨x0,x1,x2,x3,x4⟩:=hm1.cells
       have q1:BM B w w1:=hb1
       have HM1:=Lib.hid hm1
       clear hm1))
  all_goals go_returns
  all_goals first
    | exact mo_mk HM1.out q1 rfl rfl
    | exact mo_mk (HM1.out.setFresh _) (BM.setCell q1 HM1.out _) rfl rfl
set_option maxHeartbeats 1000000 in
theorem do_36 (B b:Nat) (r:Stk) (p q:Int) (d:UInt8) (f:Bool) (at_:Int) (w:World) (h:Mach w B b ((76,p)::(d,q)::r) f at_) (hl:r.length≤99980) :
    Calls Tryz.prog 125 #[.pointer (some ⟨b,0,none⟩),.int .u8 ((36:UInt8).toNat:Int)] w (Mo w B b (.bool true) ((d,q)::r) f at_):=by
  obtain⟨x0,x1,x2,x3,x4⟩:=h.cells
  have HM:=Lib.hid h
  clear h
  go_enter Tryz.func125,Tryz.ntmps125
  go_wp2_with (first
    | (go_at_call 127;refine(shut_m B b _ _ _ _ _ _ HM.out (by simp)).mono ?_
       rintro e w1 ⟨rfl,hm1,hb1⟩
       obtain⟨x0,x1,x2,x3,x4⟩:=hm1.cells
       have q1:BM B w w1:=hb1
       have HM1:=Lib.hid hm1
       clear hm1))
  all_goals go_returns
  all_goals first
    | exact mo_mk HM1.out q1 rfl rfl
    | exact mo_mk (HM1.out.setFresh _) (BM.setCell q1 HM1.out _) rfl rfl
set_option maxHeartbeats 1000000 in
theorem do_x (B b:Nat) (r:Stk) (p q:Int) (d:UInt8) (c:UInt8) (f:Bool) (at_:Int) (w:World) (h:Mach w B b ((76,p)::(d,q)::r) f at_) (hl:r.length≤99980) (hc40:((c.toNat:Int)==40)=false) (hc123:((c.toNat:Int)==123)=false) (hc36:((c.toNat:Int)==36)=false) :
    Calls Tryz.prog 125 #[.pointer (some ⟨b,0,none⟩),.int .u8 ((c:UInt8).toNat:Int)] w (Mo w B b (.bool false) ((d,q)::r) f at_):=by
  obtain⟨x0,x1,x2,x3,x4⟩:=h.cells
  have HM:=Lib.hid h
  clear h
  go_enter Tryz.func125,Tryz.ntmps125
  go_wp2_with (first
    | (go_at_call 127;refine(shut_m B b _ _ _ _ _ _ HM.out (by simp)).mono ?_
       rintro e w1 ⟨rfl,hm1,hb1⟩
       obtain⟨x0,x1,x2,x3,x4⟩:=hm1.cells
       have q1:BM B w w1:=hb1
       have HM1:=Lib.hid hm1
       clear hm1))
  all_goals go_returns
  all_goals first
    | exact mo_mk HM1.out q1 rfl rfl
    | exact mo_mk (HM1.out.setFresh _) (BM.setCell q1 HM1.out _) rfl rfl
set_option maxHeartbeats 1000000 in
theorem do_123_5 (B b:Nat) (r:Stk) (p q:Int) (d:UInt8) (m:Int) (f:Bool) (at_:Int) (w:World) (h:Mach w B b ((76,p)::(d,q)::r) f at_) (hl:r.length≤99980) (hmd:m=modeOf d) (hm5:m=5) :
    Calls Tryz.prog 125 #[.pointer (some ⟨b,0,none⟩),.int .u8 ((123:UInt8).toNat:Int)] w (Mo w B b (.bool true) ((73,p)::(d,q)::r) f at_):=by
  obtain⟨x0,x1,x2,x3,x4⟩:=h.cells
  have HM:=Lib.hid h
  clear h
  subst hm5
  have Hmd:=Lib.hid hmd
  clear hmd
  go_enter Tryz.func125,Tryz.ntmps125
  go_wp2_with (first
    | (go_at_call 150;refine(below_k B b _ _ _ _ _ _ _ _ _ Hmd.out HM.out).mono ?_
       rintro e w0 ⟨rfl,nq,rfl⟩)
    | (go_at_call 126
       with_reducible refine(become_k B b _ _ _ _ _ 73 8 _ rfl (HM.out.drewN nq)).mono ?_
       rintro e w1 ⟨rfl,hm1,hb1⟩
       obtain⟨x0,x1,x2,x3,x4⟩:=hm1.cells
       have q1:BM B w w1:=(BM.drewN (BM.refl B w) nq).trans hb1
       have HM1:=Lib.hid hm1
       clear hm1))
  all_goals go_returns
  all_goals first
    | exact mo_mk HM1.out q1 rfl rfl
    | exact mo_mk (HM1.out.setFresh _) (BM.setCell q1 HM1.out _) rfl rfl
set_option maxHeartbeats 1000000 in
theorem do_123_8 (B b:Nat) (r:Stk) (p q:Int) (d:UInt8) (m:Int) (f:Bool) (at_:Int) (w:World) (h:Mach w B b ((76,p)::(d,q)::r) f at_) (hl:r.length≤99980) (hmd:m=modeOf d) (hm5:m=8) :
    Calls Tryz.prog 125 #[.pointer (some ⟨b,0,none⟩),.int .u8 ((123:UInt8).toNat:Int)] w (Mo w B b (.bool true) ((73,p)::(d,q)::r) f at_):=by
  obtain⟨x0,x1,x2,x3,x4⟩:=h.cells
  have HM:=Lib.hid h
  clear h
  subst hm5
  have Hmd:=Lib.hid hmd
  clear hmd
  go_enter Tryz.func125,Tryz.ntmps125
  go_wp2_with (first
    | (go_at_call 150;refine(below_k B b _ _ _ _ _ _ _ _ _ Hmd.out HM.out).mono ?_
       rintro e w0 ⟨rfl,nq,rfl⟩)
    | (go_at_call 126
       with_reducible refine(become_k B b _ _ _ _ _ 73 8 _ rfl (HM.out.drewN nq)).mono ?_
       rintro e w1 ⟨rfl,hm1,hb1⟩
       obtain⟨x0,x1,x2,x3,x4⟩:=hm1.cells
       have q1:BM B w w1:=(BM.drewN (BM.refl B w) nq).trans hb1
       have HM1:=Lib.hid hm1
       clear hm1))
  all_goals go_returns
  all_goals first
    | exact mo_mk HM1.out q1 rfl rfl
    | exact mo_mk (HM1.out.setFresh _) (BM.setCell q1 HM1.out _) rfl rfl
set_option maxHeartbeats 1000000 in
theorem do_123_x (B b:Nat) (r:Stk) (p q:Int) (d:UInt8) (m:Int) (f:Bool) (at_:Int) (w:World) (h:Mach w B b ((76,p)::(d,q)::r) f at_) (hl:r.length≤99980) (hmd:m=modeOf d) (hm5:(m==5)=false) (hm8:(m==8)=false) :
    Calls Tryz.prog 125 #[.pointer (some ⟨b,0,none⟩),.int .u8 ((123:UInt8).toNat:Int)] w (Mo w B b (.bool true) ((86,p)::(d,q)::r) f at_):=by
  obtain⟨x0,x1,x2,x3,x4⟩:=h.cells
  have HM:=Lib.hid h
  clear h
  have Hmd:=Lib.hid hmd
  clear hmd
  go_enter Tryz.func125,Tryz.ntmps125
  go_wp2_with (first
    | (go_at_call 150;refine(below_k B b _ _ _ _ _ _ _ _ _ Hmd.out HM.out).mono ?_
       rintro e w0 ⟨rfl,nq,rfl⟩)
    | (go_at_call 126
       with_reducible refine(become_k B b _ _ _ _ _ 86 7 _ rfl (HM.out.drewN nq)).mono ?_
       rintro e w1 ⟨rfl,hm1,hb1⟩
       obtain⟨x0,x1,x2,x3,x4⟩:=hm1.cells
       have q1:BM B w w1:=(BM.drewN (BM.refl B w) nq).trans hb1
       have HM1:=Lib.hid hm1
       clear hm1))
  all_goals go_returns
  all_goals first
    | exact mo_mk HM1.out q1 rfl rfl
    | exact mo_mk (HM1.out.setFresh _) (BM.setCell q1 HM1.out _) rfl rfl
end Go.Proofs.YtlbfdbinaekjoaaGreatDoor
