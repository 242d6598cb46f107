/- The program's walker (parts.walker) in memory: its parts, and the numbers of those that are open. -/
import Derived.Test.YtmclohkaiemnaaaGreatDoorMo9
import Derived.Test.YtmclohkaiemnaaaGreatDoorMem
import Derived.Test.YtmclohkaiemnaaaGreatDoorPl6
set_option linter.unusedVariables false
set_option linter.unusedSimpArgs false
set_option maxRecDepth 100000
set_option maxHeartbeats 8000000
namespace Go.Proofs.YtmclohkaiemnaaaGreatDoor
open Go.RowKit
variable {cs:Array Value} {p mm up:Int} {fs:List (Int×Int)} {h h' h1:List Nat} {l l' l1:List fP} {xs ys fc:List Value} {k n B B' e e' sz sz' n' g c m b nf:Nat} {fr:Nat×Nat} {o:Obj} {A:Option Addr} {q:fP} {α:Type} {v v' v1 v2 vf v2' v1':Value} {w w' a w1:World} (st:fK) (i:Nat)
def jr (q:fP):List Value:=[.int .i64 q.mode,.int .i64 q.fr,.int .i64 q.to,.int .i64 q.up,.bool q.op]
def gL (l:List fP):List Value:=l.flatMap jr
theorem fN (l:List fP):∀(k:Nat) (q:fP),l[k]? = some q→∀(j:Nat) (u:Value),(jr q)[j]? = some u→(gL l)[k*5+j]? = some u:=by
  induction l with
  | nil=>intro k q h;simp at h
  | cons x l ih=>
    intro k q h j u hu;have hx:gL (x::l)=jr x++gL l:=rfl
    cases k with
    | zero=>
      simp at h;subst h;have hj:j<(jr x).length:=(az.1 hu).1;rw[hx,aU (by simpa using hj)];simpa using hu
    | succ k=>
      rw[hx,aP (by simp[jr];omega)];rw[show (k+1)*5+j-(jr x).length=k*5+j by simp[jr];omega];exact ih k q (by simpa using h) j u hu
theorem jN (l:List fP):∀(k:Nat) (q q':fP) (j:Nat) (u:Value),l[k]? = some q→j<5→(jr q).set j u=jr q'→(gL l).set (k*5+j) u=gL (l.set k q'):=by
  induction l with
  | nil=>intro k q q' j u h;simp at h
  | cons x l ih=>
    intro k q q' j u h hj he;have hx:gL (x::l)=jr x++gL l:=rfl
    cases k with
    | zero=>
      simp at h;subst h;rw[hx,Nat.zero_mul,dv,List.set_append_left _ _ (by simpa [jr] using hj),he];rfl
    | succ k=>
      rw[hx,dt _ _ (by simp[jr];omega),show (k+1)*5+j-(jr x).length=k*5+j by simp[jr];omega,ih k q q' j u (by simpa using h) hj he];rfl
def jp (h:List Nat):List Value:=h.map fun n:Nat=>Value.int .i64 (n:Int)
theorem pn (e:h[k]? = some n):(jp h)[k]? = some (.int .i64 (n:Int)):=by rw[jp,aV,e];rfl
theorem rk (h:w.ownsRow B e sz (.slice (some ⟨g,0,none⟩) m c) n xs) (h':w.ownsRow B' e' sz' v n' ys) (he:e≠e'):v.ownBlock≠some g:=by
  rcases h.2 with ⟨h0,_⟩|⟨g1,cap1,cur1,hv1,_,hh1,_⟩
  ·cases h0
  ·cases hv1;rcases h'.2 with ⟨rfl,_⟩|⟨g2,cap2,cur2,rfl,_,hh2,_⟩
   ·simp[Value.ownBlock]
   ·intro e1
    have:g2=g:=by simpa [Value.ownBlock] using e1
    subst this;rw[hh1] at hh2;injection hh2 with hh2
    injection hh2 with _ ht
    exact he ht
structure SS (w:World) (B b:Nat) (v1 v2 vf:Value) (l:List fP) (h:List Nat) (nf:Nat) (fc:List Value):Prop where
  le:B≤b
  hd:Bk w b 200 #[v1,v2]
  ol:w.ownsRow B 185 5 v1 l.length (gL l)
  oh:w.ownsRow B 3 1 v2 h.length (jp h)
  of:w.ownsRow B 175 2 vf nf fc
structure OM (w:World) (B b:Nat) (v1 v2 vf:Value) (l:List fP) (nf:Nat) (fc:List Value):Prop where
  le:B≤b
  hd:Bk w b 200 #[v1,v2]
  ol:w.ownsRow B 185 5 v1 l.length (gL l)
  of:w.ownsRow B 175 2 vf nf fc
theorem sK (h:w.ownsRow B e sz v n xs) (h':w.ownsRow B' e' sz' v' n' ys) (he:e≠e'):v.ownBlock=none∨v.ownBlock≠v'.ownBlock:=by
  rcases h.2 with ⟨rfl,_⟩|⟨g1,cap1,cur1,rfl,hg1,hh1,hr1⟩
  ·exact .inl rfl
  ·refine .inr fun e1=>?_
   rcases h'.2 with ⟨rfl,_⟩|⟨g2,cap2,cur2,rfl,_,hh2,_⟩
   ·simp[Value.ownBlock] at e1
   ·have:g1=g2:=by simpa [Value.ownBlock] using e1
    subst this;rw[hh1] at hh2;injection hh2 with hh2
    injection hh2 with _ ht
    exact he ht
theorem SS.drew (s:SS w B b v1 v2 vf l h nf fc):SS w.drew B b v1 v2 vf l h nf fc:=⟨s.le,s.hd,s.ol,s.oh,s.of⟩
theorem SS.drewN (s:SS w B b v1 v2 vf l h nf fc) (n:Nat):SS (w.drewN n) B b v1 v2 vf l h nf fc:=⟨s.le,s.hd,s.ol,s.oh,s.of⟩
theorem SS.setL (s:SS w B b (.slice (some ⟨g,0,none⟩) n c) v2 vf l h nf fc) (j:Nat) (u:Value) (he:(gL l).set j u=gL l') (hl:l'.length=l.length) :
    SS (w.setCell ⟨g,j,none⟩ u) B b (.slice (some ⟨g,0,none⟩) n c) v2 vf l' h nf fc:=by
  obtain⟨s1,s2,s3,s4,s5⟩:=s;have hn:=(iu s3).1;subst hn;have hgb:=eP s3 s2 (by decide);refine⟨s1,s2.far (by intro e;subst e;exact hgb rfl) u,?_,fh s4 (rk s3 s4 (by decide)) u,fh s5 (rk s3 s5 (by decide)) u⟩;rw[hl,←he];exact ox s3 j u
theorem SS.setH (s:SS w B b v1 v2 vf l h nf fc) (ho:w.ownsRow B 3 1 v2' h'.length (jp h')) :
    SS (w.setCell ⟨b,1,none⟩ v2') B b v1 v2' vf l h' nf fc:=by
  obtain⟨s1,s2,s3,s4,s5⟩:=s;exact⟨s1,by simpa using s2.set 1 v2',fh s3 (eP s3 s2 (by decide)) _,fh ho (eP ho s2 (by decide)) _,fh s5 (eP s5 s2 (by decide)) _⟩
theorem SS.setP (s:SS w B b v1 v2 vf l h nf fc) (ho:w.ownsRow B 185 5 v1' l'.length (gL l')) :
    SS (w.setCell ⟨b,0,none⟩ v1') B b v1' v2 vf l' h nf fc:=by
  obtain⟨s1,s2,s3,s4,s5⟩:=s;exact⟨s1,by simpa using s2.set 0 v1',fh ho (eP ho s2 (by decide)) _,fh s4 (eP s4 s2 (by decide)) _,fh s5 (eP s5 s2 (by decide)) _⟩
theorem SS.alloc (s:SS w B b v1 v2 vf l h nf fc) (o:Obj):SS (w.alloc o) B b v1 v2 vf l h nf fc:=
  ⟨s.le,s.hd.alloc o,s.ol.alloc o,s.oh.alloc o,s.of.alloc o⟩
theorem SS.below (s:SS w B b v1 v2 vf l h nf fc) (hb:Below w.heap.size w w'):SS w' B b v1 v2 vf l h nf fc:=
  ⟨s.le,s.hd.below hb s.hd.lt,eC s.ol hb,eC s.oh hb,eC s.of hb⟩
theorem yU (m:Int) (w:World):ls 208 #[.int .i64 m] w (.int .i64 (lq m)):=by
  by_cases h3:m=3
  ·subst h3;go_enter Tryz.func208,Tryz.ntmps208;go_wp2;go_ret;exact⟨rfl,rfl⟩
  ·by_cases h11:m=11
   ·subst h11;go_enter Tryz.func208,Tryz.ntmps208;go_wp2;go_ret;exact⟨rfl,rfl⟩
   ·have e:lq m=m:=by unfold lq;rw[aC h3,aC h11]
    have k1:(m==3)=false:=by simpa using h3
    have k2:(m==11)=false:=by simpa using h11
    have E:=ac e;clear e h3 h11;go_enter Tryz.func208,Tryz.ntmps208;go_wp2;go_ret;exact⟨by rw[E.out];rfl,rfl⟩
theorem so (m p:Int) (h:(oJ st.reverse.tail)[i]? = some (m,p)):(gC st)[(i+1)*2]? = some (.int .i64 m)∧(gC st)[(i+1)*2+1]? = some (.int .i64 p):=by
  unfold oJ at h;rw[aV,List.getElem?_tail] at h
  cases hx:st.reverse[i+1]? with
  | none=>rw[hx] at h;cases h
  | some y=>
    obtain⟨c,q⟩:=y;rw[hx] at h;simp at h;obtain⟨rfl,rfl⟩:=h;exact vj st (i+1) c q hx
def setTo (q:fP) (t:Int):fP:={q with to:=t}
def pO (q:fP) (t:Int):fP:={q with mode:=t}
theorem xI (s:SS w B b (.slice (some ⟨g,0,none⟩) n c) v2 vf l h nf fc) (hq:l[k]? = some q) (t:Int) :
    SS (((w.setCell ⟨g,k*5+2,none⟩ (.int .i64 (t+1))).setCell ⟨g,k*5+4,none⟩ (.bool false))) B b (.slice (some ⟨g,0,none⟩) n c) v2 vf (l.set k (pG t q)) h nf fc:=by
  have hk:=(az.1 hq).1;have e1:=jN l k q (setTo q (t+1)) 2 (.int .i64 (t+1)) hq (by omega) rfl;have s1:=s.setL (k*5+2) (.int .i64 (t+1)) e1 (by simp);have hq1:(l.set k (setTo q (t+1)))[k]? = some (setTo q (t+1)):=by rw[List.getElem?_set_self hk]
  have e2:=jN (l.set k (setTo q (t+1))) k (setTo q (t+1)) (pG t q) 4 (.bool false) hq1 (by omega) rfl;have s2:=s1.setL (k*5+4) (.bool false) e2 (by simp)
  rwa [List.set_set] at s2
theorem E7 (h:w.ownsRow B e sz (.slice (some ⟨g,0,none⟩) n c) n xs) (hk:k≤n):w.ownsRow B e sz (.slice (some ⟨g,0,none⟩) k c) k (xs.take (k*sz)):=by
  obtain⟨h1,h2⟩:=h;refine⟨by rw[bz,h1];exact cU (dG _ hk),?_⟩;rcases h2 with ⟨h0,_⟩|⟨g',cap,cur,hv,hg,hh,r1,r2,r3,r4⟩
  ·cases h0
  ·cases hv;refine .inr ⟨g,c,cur,rfl,hg,hh,by omega,r2,r3,?_⟩;rw[←r4,List.take_take,cU (dG _ hk)]
theorem SS.pop (s:SS w B b v1 (.slice (some ⟨g,0,none⟩) (m+1) c) vf l h nf fc) (hm:h.length=m+1) :
    SS (w.setCell ⟨b,1,none⟩ (.slice (some ⟨g,0,none⟩) m c)) B b v1 (.slice (some ⟨g,0,none⟩) m c) vf l (h.take m) nf fc:=by
  refine s.setH ?_;have ho:=s.oh;rw[hm] at ho
  have:=E7 ho (k:=m) (by omega)
  rw[Nat.mul_one] at this;rw[bz,hm,cU (by omega)];unfold jp at this ⊢
  rwa [List.map_take]
theorem kz {l:List α} {x d:α} (h:l[k]? = some x):l.getD k d=x:=by rw[aF,h];rfl
theorem uK {a:Int} (hk:h1[m]? = some k) (hq:l1[k]? = some q) (hn:¬(m+1≤fs.length∧(fs.getD m (0,0)).2=q.fr)) :
    jz fs a (m+1) l1 h1=jz fs a m (l1.set k (pG a q)) (h1.take m):=by
  rw[show jz fs a (m+1) l1 h1=if m+1≤fs.length∧(fs.getD m (0,0)).2=(l1.getD (h1.getD m 0) dP).fr then (l1,h1) else jz fs a m (l1.set (h1.getD m 0) {l1.getD (h1.getD m 0) dP with to:=a+1,op:=false}) (h1.take m) from rfl];rw[kz hk,kz hq,aC hn];rfl
def Bm (q:fP):Int:=q.to
theorem mP (h:w.ownsRow B e sz (.slice A n c) n xs) (hn:0<n):∃g,A=some ⟨g,0,none⟩:=by
  rcases h.2 with ⟨h0,_⟩|⟨g,cap,cur,h0,_⟩
  ·cases h0;omega
  ·cases h0;exact⟨g,rfl⟩
theorem En (s:SS w B b (.slice (some ⟨g,0,none⟩) n c) v2 vf l h nf fc) (hq:l[k]? = some q) (t:Int) :
    SS (w.setCell ⟨g,k*5,none⟩ (.int .i64 t)) B b (.slice (some ⟨g,0,none⟩) n c) v2 vf (l.set k (pO q t)) h nf fc:=by
  have e1:=jN l k q (pO q t) 0 (.int .i64 t) hq (by omega) rfl;exact s.setL (k*5) (.int .i64 t) e1 (by simp)
theorem vQ {i u:Nat} (hp:fs[i]? = some (mm,p)) (hu:h[i]? = some u) (hq:l[u]? = some q) (hi:i<h.length) :
    fS (fs.drop i) i l h=fS (fs.drop (i+1)) (i+1) (l.set u (pO q (lq mm))) h:=by
  obtain⟨h1,h2⟩:=az.1 hp;rw[cq h1,h2];rw[show fS ((mm,p)::fs.drop (i+1)) i l h=if i<h.length then fS (fs.drop (i+1)) (i+1) (l.set (h.getD i 0) {l.getD (h.getD i 0) dP with mode:=lq mm}) h else fS (fs.drop (i+1)) (i+1) (l++[⟨lq mm,p,0,if 0<i then ((h.getD (i-1) 0:Nat):Int) else -1,true⟩]) (h++[l.length]) from rfl];rw[aB hi,kz hu,kz hq];rfl
theorem xJ {i:Nat} (hp:fs[i]? = some (mm,p)) (hi:¬i<h.length) (hup:(if 0<i then ((h.getD (i-1) 0:Nat):Int) else -1)=up) :
    fS (fs.drop i) i l h=fS (fs.drop (i+1)) (i+1) (l++[⟨lq mm,p,0,up,true⟩]) (h++[l.length]):=by
  obtain⟨h1,h2⟩:=az.1 hp;rw[cq h1,h2];rw[show fS ((mm,p)::fs.drop (i+1)) i l h=if i<h.length then fS (fs.drop (i+1)) (i+1) (l.set (h.getD i 0) {l.getD (h.getD i 0) dP with mode:=lq mm}) h else fS (fs.drop (i+1)) (i+1) (l++[⟨lq mm,p,0,if 0<i then ((h.getD (i-1) 0:Nat):Int) else -1,true⟩]) (h++[l.length]) from rfl];rw[aC hi,hup]
theorem Tryz.infoI:(Tryz.prog.info? 3).map (fun i=>(i.zero,i.size,i.bytes))=some (some (.int .i64 0),1,8):=by kernel_rfl
theorem Tryz.infoPart:(Tryz.prog.info? 185).map (fun i=>(i.zero,i.size,i.bytes))=some (some (.agg #[.int .i64 0,.int .i64 0,.int .i64 0,.int .i64 0,.bool false]),5,40):=by kernel_rfl
theorem Em (ho:w.ownsRow B 3 1 v (h.length+1) (jp h++[.int .i64 (k:Int)])):w.ownsRow B 3 1 v (h++[k]).length (jp (h++[k])):=by
  rw[aD];have e:jp (h++[k])=jp h++[.int .i64 (k:Int)]:=by simp[jp]
  rw[e];exact ho
theorem SS.appH (s:SS w B b v1 v2 vf l h nf fc) (hg:(w.alloc o).drew.grownBy w1 v2.ownBlock) (ho:w1.ownsRow B 3 1 v2' h'.length (jp h')) :
    OM w1 B b v1 v2 vf l nf fc∧SS (w1.setCell ⟨b,1,none⟩ v2') B b v1 v2' vf l h' nf fc:=by
  obtain⟨s1,s2,s3,s4,s5⟩:=s;have h2:Bk w1 b 200 #[v1,v2]:=(s2.alloc o).drew.grown hg (Ne.symm (eP s4 s2 (by decide)));have h3:w1.ownsRow B 185 5 v1 l.length (gL l):=(gY (s3.alloc o)).kept hg (sK s3 s4 (by decide));have h5:w1.ownsRow B 175 2 vf nf fc:=(gY (s5.alloc o)).kept hg (sK s5 s4 (by decide));exact⟨⟨s1,h2,h3,h5⟩,s1,by simpa using h2.set 1 v2',fh h3 (eP h3 h2 (by decide)) _,fh ho (eP ho h2 (by decide)) _,fh h5 (eP h5 h2 (by decide)) _⟩
structure BW (B:Nat) (w w':World):Prop where
  b:Below B w w'
  t:KT [200,185,3] w w'
theorem BW.refl (B:Nat) (w:World):BW B w w:=⟨ay _ _,KT.refl _ _⟩
theorem BW.trans {b c:World} (h:BW B a b) (h':BW B b c):BW B a c:=⟨h.b.trans h'.b,h.t.trans h'.t⟩
theorem BW.drewN {b:World} (h:BW B a b) (n:Nat):BW B a (b.drewN n):=⟨dX h.b n,h.t.drewN n⟩
theorem BW.drew {b:World} (h:BW B a b):BW B a b.drew:=⟨h.b.drew,h.t.drew⟩
theorem BW.alloc {b:World} (h:BW B a b) (hB:B≤b.heap.size) (o:Obj):BW B a (b.alloc o):=⟨h.b.alloc hB o,h.t.alloc o⟩
theorem BW.hdB (h:BW B a w) (hd:Bk w b 200 cs) (hB:B≤b) (i:Nat) (v:Value):BW B a (w.setCell ⟨b,i,none⟩ v):=⟨h.b.setCell hB v,h.t.setCell hd (by simp) i v⟩
theorem yG {t:TypeId} (h:w.heap[g]? = some (.cells cs t fr)) (i:Nat) (v:Value):∃cs',(w.setCell ⟨g,i,none⟩ v).heap[g]? = some (.cells cs' t fr):=⟨cs.setIfInBounds i v,by simp[World.setCell,Array.getElem?_modify,h]⟩
theorem BW.elt (hw:BW B a w) (s:SS w B b (.slice (some ⟨g,0,none⟩) n c) v2 vf l h nf fc) (i:Nat) (v:Value):BW B a (w.setCell ⟨g,i,none⟩ v):=by
  have ho:=s.ol;have hn:=ff ho;subst hn;exact⟨hw.b.setCell (iu ho).2.2.2.1 v,hw.t.setCell (kY ho) (by simp) i v⟩
theorem BW.elt2 (hw:BW B a w) (s:SS w B b (.slice (some ⟨g,0,none⟩) n c) v2 vf l h nf fc) (i j:Nat) (u v:Value):BW B a ((w.setCell ⟨g,i,none⟩ u).setCell ⟨g,j,none⟩ v):=by
  have ho:=s.ol;have hn:=ff ho;subst hn;obtain⟨cs',h2⟩:=yG (kY ho) i u;have h1:=hw.elt s i u;exact⟨h1.b.setCell (iu ho).2.2.2.1 v,h1.t.setCell h2 (by simp) j v⟩
theorem tj (s:SS w B b v1 v2 vf l h nf fc) (hg:(w.alloc o).drew.grownBy w1 v2.ownBlock):BW B w w1:=by
  have hB:B≤w.heap.size:=by have:=s.le;have:=s.hd.lt;omega
  refine⟨((ay _ _).alloc hB o).drew.grown hg (by simp;omega) (fun k hk=>(s.oh.lt k hk).1),((KT.refl _ _).alloc o).drew.grown hg (fun k hk=>?_)⟩;obtain⟨cs,t,fr,h1,h2⟩:=jR (gY (s.oh.alloc o)) k hk;exact⟨cs,t,fr,h1,by rw[h2];simp⟩
theorem Fl (q:fP):∀u∈jr q,u.oneCell'=true:=by
  intro u hu;simp[jr] at hu;rcases hu with rfl|rfl|rfl|rfl|rfl<;>rfl
theorem IL (ho:w.ownsRow B 185 5 v (l.length+1) (gL l++jr q)):w.ownsRow B 185 5 v (l++[q]).length (gL (l++[q])):=by
  rw[aD];have e:gL (l++[q])=gL l++jr q:=by simp[gL]
  rw[e];exact ho
structure ON (w:World) (B b:Nat) (v1 v2 vf:Value) (h:List Nat) (nf:Nat) (fc:List Value):Prop where
  le:B≤b
  hd:Bk w b 200 #[v1,v2]
  oh:w.ownsRow B 3 1 v2 h.length (jp h)
  of:w.ownsRow B 175 2 vf nf fc
theorem SS.appL (s:SS w B b v1 v2 vf l h nf fc) (hg:(w.alloc o).drew.grownBy w1 v1.ownBlock) (ho:w1.ownsRow B 185 5 v1' l'.length (gL l')) :
    ON w1 B b v1 v2 vf h nf fc∧SS (w1.setCell ⟨b,0,none⟩ v1') B b v1' v2 vf l' h nf fc:=by
  obtain⟨s1,s2,s3,s4,s5⟩:=s;have h2:Bk w1 b 200 #[v1,v2]:=(s2.alloc o).drew.grown hg (Ne.symm (eP s3 s2 (by decide)));have h4:w1.ownsRow B 3 1 v2 h.length (jp h):=(gY (s4.alloc o)).kept hg (sK s4 s3 (by decide));have h5:w1.ownsRow B 175 2 vf nf fc:=(gY (s5.alloc o)).kept hg (sK s5 s3 (by decide));exact⟨⟨s1,h2,h4,h5⟩,s1,by simpa using h2.set 0 v1',fh ho (eP ho h2 (by decide)) _,fh h4 (eP h4 h2 (by decide)) _,fh h5 (eP h5 h2 (by decide)) _⟩
theorem uy (s:SS w B b v1 v2 vf l h nf fc) (hg:(w.alloc o).drew.grownBy w1 v1.ownBlock):BW B w w1:=by
  have hB:B≤w.heap.size:=by have:=s.le;have:=s.hd.lt;omega
  refine⟨((ay _ _).alloc hB o).drew.grown hg (by simp;omega) (fun k hk=>(s.ol.lt k hk).1),((KT.refl _ _).alloc o).drew.grown hg (fun k hk=>?_)⟩;obtain⟨cs,t,fr,h1,h2⟩:=jR (gY (s.ol.alloc o)) k hk;exact⟨cs,t,fr,h1,by rw[h2];simp⟩
theorem CC (hv:∀x∈h,x<l.length):∀x∈h++[l.length],x<(l++[q]).length:=by
  intro x hx;rcases bM.1 hx with h1|h1
  ·have:=hv x h1;simp;omega
  ·simp at h1;simp;omega
end Go.Proofs.YtmclohkaiemnaaaGreatDoor
