/- The program's walker (parts.walker) in memory: its parts, and the numbers of those that are open. -/
import Derived.Test.YtlbfdbinaekjoaaGreatDoorMo9
import Derived.Test.YtlbfdbinaekjoaaGreatDoorMem
import Derived.Test.YtlbfdbinaekjoaaGreatDoorPl6
namespace Go.Proofs.YtlbfdbinaekjoaaGreatDoor
open Go.RowKit
set_option linter.unusedVariables false
set_option linter.unusedSimpArgs false
set_option maxRecDepth 100000
def pcell (q:Prt):List Value:=[.int .i64 q.mode,.int .i64 q.fr,.int .i64 q.to,.int .i64 q.up,.bool q.op]
def pcells (l:List Prt):List Value:=l.flatMap pcell
theorem pcells_get (l:List Prt):∀(k:Nat) (q:Prt),l[k]? = some q→∀(j:Nat) (u:Value),(pcell q)[j]? = some u→(pcells l)[k*5+j]? = some u:=by
  induction l with
  | nil=>intro k q h;simp at h
  | cons x l ih=>
    intro k q h j u hu
    have hx:pcells (x::l)=pcell x++pcells l:=rfl
    cases k with
    | zero=>
      simp at h
      subst h
      have hj:j<(pcell x).length:=(List.getElem?_eq_some_iff.1 hu).1
      rw[hx,List.getElem?_append_left (by simpa using hj)]
      simpa using hu
    | succ k=>
      rw[hx,List.getElem?_append_right (by simp[pcell];omega)]
      rw[show (k+1)*5+j-(pcell x).length=k*5+j by simp[pcell];omega]
      exact ih k q (by simpa using h) j u hu
theorem pcells_set (l:List Prt):∀(k:Nat) (q q':Prt) (j:Nat) (u:Value),l[k]? = some q→j<5→(pcell q).set j u=pcell q'→(pcells l).set (k*5+j) u=pcells (l.set k q'):=by
  induction l with
  | nil=>intro k q q' j u h;simp at h
  | cons x l ih=>
    intro k q q' j u h hj he
    have hx:pcells (x::l)=pcell x++pcells l:=rfl
    cases k with
    | zero=>
      simp at h
      subst h
      rw[hx,Nat.zero_mul,Nat.zero_add,List.set_append_left _ _ (by simpa [pcell] using hj),he]
      rfl
    | succ k=>
      rw[hx,List.set_append_right _ _ (by simp[pcell];omega),show (k+1)*5+j-(pcell x).length=k*5+j by simp[pcell];omega,ih k q q' j u (by simpa using h) hj he]
      rfl
def ncells (h:List Nat):List Value:=h.map fun n:Nat=>Value.int .i64 (n:Int)
theorem ncells_get {h:List Nat} {k n:Nat} (e:h[k]? = some n):(ncells h)[k]? = some (.int .i64 (n:Int)):=by rw[ncells,List.getElem?_map,e];rfl
theorem own_apart {w:World} {B B' e e' sz sz' n n' g c m:Nat} {v:Value} {xs ys:List Value} (h:w.ownsRow B e sz (.slice (some ⟨g,0,none⟩) m c) n xs) (h':w.ownsRow B' e' sz' v n' ys) (he:e≠e'):v.ownBlock≠some g:=by
  rcases h.2 with ⟨h0,_⟩|⟨g1,cap1,cur1,hv1,_,hh1,_⟩
  ·cases h0
  ·cases hv1
   rcases h'.2 with ⟨rfl,_⟩|⟨g2,cap2,cur2,rfl,_,hh2,_⟩
   ·simp[Value.ownBlock]
   ·intro e1
    have:g2=g:=by simpa [Value.ownBlock] using e1
    subst this
    rw[hh1] at hh2
    injection hh2 with hh2
    injection hh2 with _ ht
    exact he ht
structure SS (w:World) (B b:Nat) (v1 v2 vf:Value) (l:List Prt) (h:List Nat) (nf:Nat) (fc:List Value):Prop where
  le:B≤b
  hd:Bk w b 167 #[v1,v2]
  ol:w.ownsRow B 149 5 v1 l.length (pcells l)
  oh:w.ownsRow B 3 1 v2 h.length (ncells h)
  of:w.ownsRow B 138 2 vf nf fc
structure SSm (w:World) (B b:Nat) (v1 v2 vf:Value) (l:List Prt) (nf:Nat) (fc:List Value):Prop where
  le:B≤b
  hd:Bk w b 167 #[v1,v2]
  ol:w.ownsRow B 149 5 v1 l.length (pcells l)
  of:w.ownsRow B 138 2 vf nf fc
theorem own_two {w:World} {B B' e e' sz sz' n n':Nat} {v v':Value} {xs ys:List Value} (h:w.ownsRow B e sz v n xs) (h':w.ownsRow B' e' sz' v' n' ys) (he:e≠e'):v.ownBlock=none∨v.ownBlock≠v'.ownBlock:=by
  rcases h.2 with ⟨rfl,_⟩|⟨g1,cap1,cur1,rfl,hg1,hh1,hr1⟩
  ·exact .inl rfl
  ·refine .inr fun e1=>?_
   rcases h'.2 with ⟨rfl,_⟩|⟨g2,cap2,cur2,rfl,_,hh2,_⟩
   ·simp[Value.ownBlock] at e1
   ·have:g1=g2:=by simpa [Value.ownBlock] using e1
    subst this
    rw[hh1] at hh2
    injection hh2 with hh2
    injection hh2 with _ ht
    exact he ht
theorem SS.drew {w:World} {B b nf:Nat} {v1 v2 vf:Value} {l:List Prt} {h:List Nat} {fc:List Value} (s:SS w B b v1 v2 vf l h nf fc):SS w.drew B b v1 v2 vf l h nf fc:=⟨s.le,s.hd,s.ol,s.oh,s.of⟩
theorem SS.drewN {w:World} {B b nf:Nat} {v1 v2 vf:Value} {l:List Prt} {h:List Nat} {fc:List Value} (s:SS w B b v1 v2 vf l h nf fc) (n:Nat):SS (w.drewN n) B b v1 v2 vf l h nf fc:=⟨s.le,s.hd,s.ol,s.oh,s.of⟩
theorem SS.setL {w:World} {B b nf g n c:Nat} {v2 vf:Value} {l l':List Prt} {h:List Nat} {fc:List Value} (s:SS w B b (.slice (some ⟨g,0,none⟩) n c) v2 vf l h nf fc) (j:Nat) (u:Value) (he:(pcells l).set j u=pcells l') (hl:l'.length=l.length) :
    SS (w.setCell ⟨g,j,none⟩ u) B b (.slice (some ⟨g,0,none⟩) n c) v2 vf l' h nf fc:=by
  obtain⟨s1,s2,s3,s4,s5⟩:=s
  have hn:=(own_le s3).1
  subst hn
  have hgb:=own_ne s3 s2 (by decide)
  refine⟨s1,s2.far (by intro e;subst e;exact hgb rfl) u,?_,own_far s4 (own_apart s3 s4 (by decide)) u,own_far s5 (own_apart s3 s5 (by decide)) u⟩
  rw[hl,←he]
  exact own_set s3 j u
theorem SS.setH {w:World} {B b nf:Nat} {v1 v2 v2' vf:Value} {l:List Prt} {h h':List Nat} {fc:List Value} (s:SS w B b v1 v2 vf l h nf fc) (ho:w.ownsRow B 3 1 v2' h'.length (ncells h')) :
    SS (w.setCell ⟨b,1,none⟩ v2') B b v1 v2' vf l h' nf fc:=by
  obtain⟨s1,s2,s3,s4,s5⟩:=s
  exact⟨s1,by simpa using s2.set 1 v2',own_far s3 (own_ne s3 s2 (by decide)) _,own_far ho (own_ne ho s2 (by decide)) _,own_far s5 (own_ne s5 s2 (by decide)) _⟩
theorem SS.setP {w:World} {B b nf:Nat} {v1 v1' v2 vf:Value} {l l':List Prt} {h:List Nat} {fc:List Value} (s:SS w B b v1 v2 vf l h nf fc) (ho:w.ownsRow B 149 5 v1' l'.length (pcells l')) :
    SS (w.setCell ⟨b,0,none⟩ v1') B b v1' v2 vf l' h nf fc:=by
  obtain⟨s1,s2,s3,s4,s5⟩:=s
  exact⟨s1,by simpa using s2.set 0 v1',own_far ho (own_ne ho s2 (by decide)) _,own_far s4 (own_ne s4 s2 (by decide)) _,own_far s5 (own_ne s5 s2 (by decide)) _⟩
theorem SS.alloc {w:World} {B b nf:Nat} {v1 v2 vf:Value} {l:List Prt} {h:List Nat} {fc:List Value} (s:SS w B b v1 v2 vf l h nf fc) (o:Obj):SS (w.alloc o) B b v1 v2 vf l h nf fc:=
  ⟨s.le,s.hd.alloc o,s.ol.alloc o,s.oh.alloc o,s.of.alloc o⟩
theorem SS.below {w w':World} {B b nf:Nat} {v1 v2 vf:Value} {l:List Prt} {h:List Nat} {fc:List Value} (s:SS w B b v1 v2 vf l h nf fc) (hb:Below w.heap.size w w'):SS w' B b v1 v2 vf l h nf fc:=
  ⟨s.le,s.hd.below hb s.hd.lt,own_below s.ol hb,own_below s.oh hb,own_below s.of hb⟩
theorem counts_m (m:Int) (w:World):Calls Tryz.prog 166 #[.int .i64 m] w fun e w'=>e=.returned (.int .i64 (cntM m))∧w=w':=by
  by_cases h3:m=3
  ·subst h3
   go_enter Tryz.func166,Tryz.ntmps166
   go_wp2
   go_ret
   exact⟨rfl,rfl⟩
  ·by_cases h11:m=11
   ·subst h11
    go_enter Tryz.func166,Tryz.ntmps166
    go_wp2
    go_ret
    exact⟨rfl,rfl⟩
   ·have e:cntM m=m:=by unfold cntM;rw[if_neg h3,if_neg h11]
    have k1:(m==3)=false:=by simpa using h3
    have k2:(m==11)=false:=by simpa using h11
    have E:=Lib.hid e
    clear e h3 h11
    go_enter Tryz.func166,Tryz.ntmps166
    go_wp2
    go_ret
    exact⟨by rw[E.out];rfl,rfl⟩
theorem frame_cells (st:Stk) (i:Nat) (m p:Int) (h:(fsP st.reverse.tail)[i]? = some (m,p)):(fcells st)[(i+1)*2]? = some (.int .i64 m)∧(fcells st)[(i+1)*2+1]? = some (.int .i64 p):=by
  unfold fsP at h
  rw[List.getElem?_map,List.getElem?_tail] at h
  cases hx:st.reverse[i+1]? with
  | none=>rw[hx] at h;cases h
  | some y=>
    obtain⟨c,q⟩:=y
    rw[hx] at h
    simp at h
    obtain⟨rfl,rfl⟩:=h
    exact fcells_at st (i+1) c q hx
def setTo (q:Prt) (t:Int):Prt:={q with to:=t}
def setMode (q:Prt) (t:Int):Prt:={q with mode:=t}
theorem see_shut {w:World} {B b nf g n c k:Nat} {v2 vf:Value} {l:List Prt} {h:List Nat} {fc:List Value} {q:Prt} (s:SS w B b (.slice (some ⟨g,0,none⟩) n c) v2 vf l h nf fc) (hq:l[k]? = some q) (t:Int) :
    SS (((w.setCell ⟨g,k*5+2,none⟩ (.int .i64 (t+1))).setCell ⟨g,k*5+4,none⟩ (.bool false))) B b (.slice (some ⟨g,0,none⟩) n c) v2 vf (l.set k (clo1 t q)) h nf fc:=by
  have hk:=(List.getElem?_eq_some_iff.1 hq).1
  have e1:=pcells_set l k q (setTo q (t+1)) 2 (.int .i64 (t+1)) hq (by omega) rfl
  have s1:=s.setL (k*5+2) (.int .i64 (t+1)) e1 (by simp)
  have hq1:(l.set k (setTo q (t+1)))[k]? = some (setTo q (t+1)):=by rw[List.getElem?_set_self hk]
  have e2:=pcells_set (l.set k (setTo q (t+1))) k (setTo q (t+1)) (clo1 t q) 4 (.bool false) hq1 (by omega) rfl
  have s2:=s1.setL (k*5+4) (.bool false) e2 (by simp)
  rwa [List.set_set] at s2
theorem own_take {w:World} {B e sz n g c k:Nat} {xs:List Value} (h:w.ownsRow B e sz (.slice (some ⟨g,0,none⟩) n c) n xs) (hk:k≤n):w.ownsRow B e sz (.slice (some ⟨g,0,none⟩) k c) k (xs.take (k*sz)):=by
  obtain⟨h1,h2⟩:=h
  refine⟨by rw[List.length_take,h1];exact Nat.min_eq_left (Nat.mul_le_mul_right _ hk),?_⟩
  rcases h2 with ⟨h0,_⟩|⟨g',cap,cur,hv,hg,hh,r1,r2,r3,r4⟩
  ·cases h0
  ·cases hv
   refine .inr ⟨g,c,cur,rfl,hg,hh,by omega,r2,r3,?_⟩
   rw[←r4,List.take_take,Nat.min_eq_left (Nat.mul_le_mul_right _ hk)]
theorem SS.pop {w:World} {B b nf g c m:Nat} {v1 vf:Value} {l:List Prt} {h:List Nat} {fc:List Value} (s:SS w B b v1 (.slice (some ⟨g,0,none⟩) (m+1) c) vf l h nf fc) (hm:h.length=m+1) :
    SS (w.setCell ⟨b,1,none⟩ (.slice (some ⟨g,0,none⟩) m c)) B b v1 (.slice (some ⟨g,0,none⟩) m c) vf l (h.take m) nf fc:=by
  refine s.setH ?_
  have ho:=s.oh
  rw[hm] at ho
  have:=own_take ho (k:=m) (by omega)
  rw[Nat.mul_one] at this
  rw[List.length_take,hm,Nat.min_eq_left (by omega)]
  unfold ncells at this ⊢
  rwa [List.map_take]
theorem getD_of {α:Type} {l:List α} {k:Nat} {x d:α} (h:l[k]? = some x):l.getD k d=x:=by rw[List.getD_eq_getElem?_getD,h];rfl
theorem seePop_go {fs:List (Int×Int)} {a:Int} {m k:Nat} {l1:List Prt} {h1:List Nat} {q:Prt} (hk:h1[m]? = some k) (hq:l1[k]? = some q) (hn:¬(m+1≤fs.length∧(fs.getD m (0,0)).2=q.fr)) :
    seePop fs a (m+1) l1 h1=seePop fs a m (l1.set k (clo1 a q)) (h1.take m):=by
  rw[show seePop fs a (m+1) l1 h1=if m+1≤fs.length∧(fs.getD m (0,0)).2=(l1.getD (h1.getD m 0) dP).fr then (l1,h1) else seePop fs a m (l1.set (h1.getD m 0) {l1.getD (h1.getD m 0) dP with to:=a+1,op:=false}) (h1.take m) from rfl]
  rw[getD_of hk,getD_of hq,if_neg hn]
  rfl
def toP (q:Prt):Int:=q.to
theorem own_at {w:World} {B e sz n c:Nat} {A:Option Addr} {xs:List Value} (h:w.ownsRow B e sz (.slice A n c) n xs) (hn:0<n):∃g,A=some ⟨g,0,none⟩:=by
  rcases h.2 with ⟨h0,_⟩|⟨g,cap,cur,h0,_⟩
  ·cases h0;omega
  ·cases h0;exact⟨g,rfl⟩
theorem see_mode {w:World} {B b nf g n c k:Nat} {v2 vf:Value} {l:List Prt} {h:List Nat} {fc:List Value} {q:Prt} (s:SS w B b (.slice (some ⟨g,0,none⟩) n c) v2 vf l h nf fc) (hq:l[k]? = some q) (t:Int) :
    SS (w.setCell ⟨g,k*5,none⟩ (.int .i64 t)) B b (.slice (some ⟨g,0,none⟩) n c) v2 vf (l.set k (setMode q t)) h nf fc:=by
  have e1:=pcells_set l k q (setMode q t) 0 (.int .i64 t) hq (by omega) rfl
  exact s.setL (k*5) (.int .i64 t) e1 (by simp)
theorem seePush_stay {fs:List (Int×Int)} {i u:Nat} {l:List Prt} {h:List Nat} {q:Prt} {mm p:Int} (hp:fs[i]? = some (mm,p)) (hu:h[i]? = some u) (hq:l[u]? = some q) (hi:i<h.length) :
    seePush (fs.drop i) i l h=seePush (fs.drop (i+1)) (i+1) (l.set u (setMode q (cntM mm))) h:=by
  obtain⟨h1,h2⟩:=List.getElem?_eq_some_iff.1 hp
  rw[List.drop_eq_getElem_cons h1,h2]
  rw[show seePush ((mm,p)::fs.drop (i+1)) i l h=if i<h.length then seePush (fs.drop (i+1)) (i+1) (l.set (h.getD i 0) {l.getD (h.getD i 0) dP with mode:=cntM mm}) h else seePush (fs.drop (i+1)) (i+1) (l++[⟨cntM mm,p,0,if 0<i then ((h.getD (i-1) 0:Nat):Int) else -1,true⟩]) (h++[l.length]) from rfl]
  rw[if_pos hi,getD_of hu,getD_of hq]
  rfl
theorem seePush_new {fs:List (Int×Int)} {i:Nat} {l:List Prt} {h:List Nat} {mm p up:Int} (hp:fs[i]? = some (mm,p)) (hi:¬i<h.length) (hup:(if 0<i then ((h.getD (i-1) 0:Nat):Int) else -1)=up) :
    seePush (fs.drop i) i l h=seePush (fs.drop (i+1)) (i+1) (l++[⟨cntM mm,p,0,up,true⟩]) (h++[l.length]):=by
  obtain⟨h1,h2⟩:=List.getElem?_eq_some_iff.1 hp
  rw[List.drop_eq_getElem_cons h1,h2]
  rw[show seePush ((mm,p)::fs.drop (i+1)) i l h=if i<h.length then seePush (fs.drop (i+1)) (i+1) (l.set (h.getD i 0) {l.getD (h.getD i 0) dP with mode:=cntM mm}) h else seePush (fs.drop (i+1)) (i+1) (l++[⟨cntM mm,p,0,if 0<i then ((h.getD (i-1) 0:Nat):Int) else -1,true⟩]) (h++[l.length]) from rfl]
  rw[if_neg hi,hup]
theorem Tryz.infoI:(Tryz.prog.info? 3).map (fun i=>(i.zero,i.size,i.bytes))=some (some (.int .i64 0),1,8):=by kernel_rfl
theorem Tryz.infoPart:(Tryz.prog.info? 149).map (fun i=>(i.zero,i.size,i.bytes))=some (some (.agg #[.int .i64 0,.int .i64 0,.int .i64 0,.int .i64 0,.bool false]),5,40):=by kernel_rfl
theorem see_push {w:World} {B k:Nat} {v:Value} {h:List Nat} (ho:w.ownsRow B 3 1 v (h.length+1) (ncells h++[.int .i64 (k:Int)])):w.ownsRow B 3 1 v (h++[k]).length (ncells (h++[k])):=by
  rw[List.length_append]
  have e:ncells (h++[k])=ncells h++[.int .i64 (k:Int)]:=by simp[ncells]
  rw[e]
  exact ho
theorem SS.appH {w w1:World} {B b nf:Nat} {v1 v2 v2' vf:Value} {l:List Prt} {h h':List Nat} {fc:List Value} {o:Obj} (s:SS w B b v1 v2 vf l h nf fc) (hg:(w.alloc o).drew.grownBy w1 v2.ownBlock) (ho:w1.ownsRow B 3 1 v2' h'.length (ncells h')) :
    SSm w1 B b v1 v2 vf l nf fc∧SS (w1.setCell ⟨b,1,none⟩ v2') B b v1 v2' vf l h' nf fc:=by
  obtain⟨s1,s2,s3,s4,s5⟩:=s
  have h2:Bk w1 b 167 #[v1,v2]:=(s2.alloc o).drew.grown hg (Ne.symm (own_ne s4 s2 (by decide)))
  have h3:w1.ownsRow B 149 5 v1 l.length (pcells l):=(own_drew (s3.alloc o)).kept hg (own_two s3 s4 (by decide))
  have h5:w1.ownsRow B 138 2 vf nf fc:=(own_drew (s5.alloc o)).kept hg (own_two s5 s4 (by decide))
  exact⟨⟨s1,h2,h3,h5⟩,s1,by simpa using h2.set 1 v2',own_far h3 (own_ne h3 h2 (by decide)) _,own_far ho (own_ne ho h2 (by decide)) _,own_far h5 (own_ne h5 h2 (by decide)) _⟩
structure BW (B:Nat) (w w':World):Prop where
  b:Below B w w'
  t:KT [167,149,3] w w'
theorem BW.refl (B:Nat) (w:World):BW B w w:=⟨Below.refl _ _,KT.refl _ _⟩
theorem BW.trans {B:Nat} {a b c:World} (h:BW B a b) (h':BW B b c):BW B a c:=⟨h.b.trans h'.b,h.t.trans h'.t⟩
theorem BW.drewN {B:Nat} {a b:World} (h:BW B a b) (n:Nat):BW B a (b.drewN n):=⟨below_drewN' h.b n,h.t.drewN n⟩
theorem BW.drew {B:Nat} {a b:World} (h:BW B a b):BW B a b.drew:=⟨h.b.drew,h.t.drew⟩
theorem BW.alloc {B:Nat} {a b:World} (h:BW B a b) (hB:B≤b.heap.size) (o:Obj):BW B a (b.alloc o):=⟨h.b.alloc hB o,h.t.alloc o⟩
theorem BW.hdB {B b:Nat} {a w:World} {cs:Array Value} (h:BW B a w) (hd:Bk w b 167 cs) (hB:B≤b) (i:Nat) (v:Value):BW B a (w.setCell ⟨b,i,none⟩ v):=⟨h.b.setCell hB v,h.t.setCell hd (by simp) i v⟩
theorem heap_set_ty {w:World} {g:Nat} {cs:Array Value} {t:TypeId} {fr:Nat×Nat} (h:w.heap[g]? = some (.cells cs t fr)) (i:Nat) (v:Value):∃cs',(w.setCell ⟨g,i,none⟩ v).heap[g]? = some (.cells cs' t fr):=⟨cs.setIfInBounds i v,by simp[World.setCell,Array.getElem?_modify,h]⟩
theorem BW.elt {B b nf g n c:Nat} {a w:World} {v2 vf:Value} {l:List Prt} {h:List Nat} {fc:List Value} (hw:BW B a w) (s:SS w B b (.slice (some ⟨g,0,none⟩) n c) v2 vf l h nf fc) (i:Nat) (v:Value):BW B a (w.setCell ⟨g,i,none⟩ v):=by
  have ho:=s.ol
  have hn:=own_len ho
  subst hn
  exact⟨hw.b.setCell (own_le ho).2.2.2.1 v,hw.t.setCell (own_heap ho) (by simp) i v⟩
theorem BW.elt2 {B b nf g n c:Nat} {a w:World} {v2 vf:Value} {l:List Prt} {h:List Nat} {fc:List Value} (hw:BW B a w) (s:SS w B b (.slice (some ⟨g,0,none⟩) n c) v2 vf l h nf fc) (i j:Nat) (u v:Value):BW B a ((w.setCell ⟨g,i,none⟩ u).setCell ⟨g,j,none⟩ v):=by
  have ho:=s.ol
  have hn:=own_len ho
  subst hn
  obtain⟨cs',h2⟩:=heap_set_ty (own_heap ho) i u
  have h1:=hw.elt s i u
  exact⟨h1.b.setCell (own_le ho).2.2.2.1 v,h1.t.setCell h2 (by simp) j v⟩
theorem see_push_below {w w1:World} {B b nf:Nat} {v1 v2 vf:Value} {l:List Prt} {h:List Nat} {fc:List Value} {o:Obj} (s:SS w B b v1 v2 vf l h nf fc) (hg:(w.alloc o).drew.grownBy w1 v2.ownBlock):BW B w w1:=by
  have hB:B≤w.heap.size:=by have:=s.le;have:=s.hd.lt;omega
  refine⟨((Below.refl _ _).alloc hB o).drew.grown hg (by simp;omega) (fun k hk=>(s.oh.lt k hk).1),((KT.refl _ _).alloc o).drew.grown hg (fun k hk=>?_)⟩
  obtain⟨cs,t,fr,h1,h2⟩:=own_blk (own_drew (s.oh.alloc o)) k hk
  exact⟨cs,t,fr,h1,by rw[h2];simp⟩
theorem one_part (q:Prt):∀u∈pcell q,u.oneCell'=true:=by
  intro u hu
  simp[pcell] at hu
  rcases hu with rfl|rfl|rfl|rfl|rfl<;>rfl
theorem see_add {w:World} {B:Nat} {v:Value} {l:List Prt} {q:Prt} (ho:w.ownsRow B 149 5 v (l.length+1) (pcells l++pcell q)):w.ownsRow B 149 5 v (l++[q]).length (pcells (l++[q])):=by
  rw[List.length_append]
  have e:pcells (l++[q])=pcells l++pcell q:=by simp[pcells]
  rw[e]
  exact ho
structure SSl (w:World) (B b:Nat) (v1 v2 vf:Value) (h:List Nat) (nf:Nat) (fc:List Value):Prop where
  le:B≤b
  hd:Bk w b 167 #[v1,v2]
  oh:w.ownsRow B 3 1 v2 h.length (ncells h)
  of:w.ownsRow B 138 2 vf nf fc
theorem SS.appL {w w1:World} {B b nf:Nat} {v1 v1' v2 vf:Value} {l l':List Prt} {h:List Nat} {fc:List Value} {o:Obj} (s:SS w B b v1 v2 vf l h nf fc) (hg:(w.alloc o).drew.grownBy w1 v1.ownBlock) (ho:w1.ownsRow B 149 5 v1' l'.length (pcells l')) :
    SSl w1 B b v1 v2 vf h nf fc∧SS (w1.setCell ⟨b,0,none⟩ v1') B b v1' v2 vf l' h nf fc:=by
  obtain⟨s1,s2,s3,s4,s5⟩:=s
  have h2:Bk w1 b 167 #[v1,v2]:=(s2.alloc o).drew.grown hg (Ne.symm (own_ne s3 s2 (by decide)))
  have h4:w1.ownsRow B 3 1 v2 h.length (ncells h):=(own_drew (s4.alloc o)).kept hg (own_two s4 s3 (by decide))
  have h5:w1.ownsRow B 138 2 vf nf fc:=(own_drew (s5.alloc o)).kept hg (own_two s5 s3 (by decide))
  exact⟨⟨s1,h2,h4,h5⟩,s1,by simpa using h2.set 0 v1',own_far ho (own_ne ho h2 (by decide)) _,own_far h4 (own_ne h4 h2 (by decide)) _,own_far h5 (own_ne h5 h2 (by decide)) _⟩
theorem see_add_below {w w1:World} {B b nf:Nat} {v1 v2 vf:Value} {l:List Prt} {h:List Nat} {fc:List Value} {o:Obj} (s:SS w B b v1 v2 vf l h nf fc) (hg:(w.alloc o).drew.grownBy w1 v1.ownBlock):BW B w w1:=by
  have hB:B≤w.heap.size:=by have:=s.le;have:=s.hd.lt;omega
  refine⟨((Below.refl _ _).alloc hB o).drew.grown hg (by simp;omega) (fun k hk=>(s.ol.lt k hk).1),((KT.refl _ _).alloc o).drew.grown hg (fun k hk=>?_)⟩
  obtain⟨cs,t,fr,h1,h2⟩:=own_blk (own_drew (s.ol.alloc o)) k hk
  exact⟨cs,t,fr,h1,by rw[h2];simp⟩
theorem see_valid {l:List Prt} {h:List Nat} {q:Prt} (hv:∀x∈h,x<l.length):∀x∈h++[l.length],x<(l++[q]).length:=by
  intro x hx
  rcases List.mem_append.1 hx with h1|h1
  ·have:=hv x h1;simp;omega
  ·simp at h1;simp;omega
end Go.Proofs.YtlbfdbinaekjoaaGreatDoor
