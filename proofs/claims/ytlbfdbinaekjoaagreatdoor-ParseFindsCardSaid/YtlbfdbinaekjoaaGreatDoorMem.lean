/- Lemmas on memory, strings and appends that all the walks of this family use; no program is in sight here. -/
import Derived.Test.YtlbfdbinaekjoaaGreatDoorProg
import Derived.WalkKit
import Derived.Handy
import Derived.WalkSmall
import Derived.Deep.Light
import Derived.RegionTactic
import Derived.BigRegion
import Derived.ChangeAlike
import Derived.Deep.QuietTactic
import Derived.BigQuiet
import Derived.Deep.RegionHeld3
import Derived.Deep.RegionLaw
import Derived.Outline
import Derived.Lib.Hide
import Derived.WalkSpells
import Derived.WalkLawsBesides
import Derived.Maps.AppendAt
import Derived.ProofKit
import Derived.OpenShut
import Derived.WideKeyArgs
import Derived.Deep.Slices
import Derived.ChangeSame
namespace Go.Proofs.YtlbfdbinaekjoaaGreatDoor
open Go.RowKit
set_option linter.unusedVariables false
set_option linter.unusedSimpArgs false
set_option maxRecDepth 100000
theorem ret_int {k:IntKind} {a b:Int} (h:a=b):Ending.returned (.int k a)=.returned (.int k b):=by rw[h]
theorem ret_bool {a b:Bool} (h:a=b):Ending.returned (.bool a)=.returned (.bool b):=by rw[h]
theorem ba_extract (l:List UInt8) (a b:Nat):(ByteArray.mk l.toArray).extract a b=⟨((l.take b).drop a).toArray⟩:=by
  apply ByteArray.ext
  apply Array.ext'
  rw[ByteArray.data_extract,Array.toList_extract]
  simp[List.drop_take]
theorem ba_append (l m:List UInt8):(ByteArray.mk l.toArray)++(ByteArray.mk m.toArray)=⟨(l++m).toArray⟩:=by
  apply ByteArray.ext
  apply Array.ext'
  simp
theorem ba_get (l:List UInt8) (k:Nat) (h:k<(ByteArray.mk l.toArray).size):(ByteArray.mk l.toArray)[k]'h=l[k]'(show k<l.length from h):=rfl
theorem ba_of (s:ByteArray):∃l:List UInt8,s=⟨l.toArray⟩:=⟨s.data.toList,by cases s;simp⟩
def Bk (w:World) (g:Nat) (t:TypeId) (cs:Array Value):Prop:=w.heap[g]? = some (.cells cs t (0,0))
theorem Bk.lt {w:World} {g:Nat} {t:TypeId} {cs:Array Value} (h:Bk w g t cs):g<w.heap.size:=(Array.getElem?_eq_some_iff.1 h).1
theorem Bk.cell {w:World} {g:Nat} {t:TypeId} {cs:Array Value} (h:Bk w g t cs) (i:Nat):w.cell? ⟨g,i,none⟩=cs[i]? := cell_of_row w g i cs t (0,0) h
theorem Bk.frozen {w:World} {g:Nat} {t:TypeId} {cs:Array Value} (h:Bk w g t cs) (i:Nat):w.frozen? ⟨g,i,none⟩=false:=by
  unfold Bk at h;simp[World.frozen?,h]
theorem Bk.new (w:World) (t:TypeId) (cs:Array Value):Bk (w.alloc (.cells cs t)) w.heap.size t cs:=heap_alloc_new w _
theorem Bk.drewN {w:World} {g:Nat} {t:TypeId} {cs:Array Value} (h:Bk w g t cs) (n:Nat):Bk (w.drewN n) g t cs:=h
theorem Bk.drew {w:World} {g:Nat} {t:TypeId} {cs:Array Value} (h:Bk w g t cs):Bk w.drew g t cs:=h
theorem Bk.alloc {w:World} {g:Nat} {t:TypeId} {cs:Array Value} (h:Bk w g t cs) (o:Obj):Bk (w.alloc o) g t cs:=(Below.heap_alloc w o g h.lt).trans h
theorem Bk.set {w:World} {g:Nat} {t:TypeId} {cs:Array Value} (h:Bk w g t cs) (i:Nat) (u:Value):Bk (w.setCell ⟨g,i,none⟩ u) g t (cs.setIfInBounds i u):=by
  unfold Bk at h ⊢;simp[World.setCell,Array.getElem?_modify,h]
theorem Bk.far {w:World} {g:Nat} {t:TypeId} {cs:Array Value} (h:Bk w g t cs) {p:Addr} (hp:g≠p.block) (u:Value):Bk (w.setCell p u) g t cs:=(Below.heap_setCell w p u g hp).trans h
theorem Bk.below {w w':World} {g:Nat} {t:TypeId} {cs:Array Value} {B:Nat} (h:Bk w g t cs) (hb:Below B w w') (hg:g<B):Bk w' g t cs:=(hb.block g hg).trans h
theorem Bk.grown {w w':World} {g:Nat} {t:TypeId} {cs:Array Value} {row:Option Nat} (h:Bk w g t cs) (hb:w.grownBy w' row) (hg:some g≠row):Bk w' g t cs:=(hb.block g h.lt hg).trans h
theorem own_ne {w:World} {g:Nat} {t:TypeId} {cs:Array Value} {base e size n:Nat} {v:Value} {xs:List Value} (h:w.ownsRow base e size v n xs) (hg:Bk w g t cs) (hne:e≠t):v.ownBlock≠some g:=by
  rcases h.2 with ⟨rfl,_⟩|⟨g',cap,cur,rfl,_,hh,_⟩
  ·simp[Value.ownBlock]
  ·intro he
   obtain rfl:g'=g:=by simpa [Value.ownBlock] using he
   unfold Bk at hg
   rw[hh] at hg
   injection hg with hg
   injection hg with _ ht
   exact hne ht
theorem below_drewN' {B:Nat} {a w:World} (h:Below B a w) (n:Nat):Below B a (w.drewN n):=h.trans ⟨rfl,rfl,rfl,Nat.le_refl _,fun _ _=>rfl⟩
theorem own_keep {w w':World} {B B' e size n:Nat} {v:Value} {xs:List Value} (h:w.ownsRow B e size v n xs) (hb:Below B' w w') (hv:∀k,v.ownBlock=some k→k<B'):w'.ownsRow B e size v n xs:=by
  refine⟨h.1,?_⟩
  rcases h.2 with h2|⟨g,cap,cur,rfl,hg,hh,r⟩
  ·exact .inl h2
  ·exact .inr ⟨g,cap,cur,rfl,hg,(hb.block g (hv g rfl)).trans hh,r⟩
theorem own_below {w w':World} {B e size n:Nat} {v:Value} {xs:List Value} (h:w.ownsRow B e size v n xs) (hb:Below w.heap.size w w'):w'.ownsRow B e size v n xs:=
  own_keep h hb fun k hk=>(h.lt k hk).2
theorem own_far {w:World} {B e size n:Nat} {v:Value} {xs:List Value} (h:w.ownsRow B e size v n xs) {p:Addr} (hp:v.ownBlock≠some p.block) (u:Value):(w.setCell p u).ownsRow B e size v n xs:=by
  refine⟨h.1,?_⟩
  rcases h.2 with h2|⟨g,cap,cur,rfl,hg,hh,r⟩
  ·exact .inl h2
  ·exact .inr ⟨g,cap,cur,rfl,hg,(Below.heap_setCell w p u g (fun e=>hp (by simp[Value.ownBlock,e]))).trans hh,r⟩
theorem own_drew {w:World} {B e size n:Nat} {v:Value} {xs:List Value} (h:w.ownsRow B e size v n xs):w.drew.ownsRow B e size v n xs:=h
theorem own_base {w:World} {B B' e size n:Nat} {v:Value} {xs:List Value} (h:w.ownsRow B e size v n xs) (hB:B'≤B):w.ownsRow B' e size v n xs:=by
  refine⟨h.1,?_⟩
  rcases h.2 with h2|⟨g,cap,cur,rfl,hg,r⟩
  ·exact .inl h2
  ·exact .inr ⟨g,cap,cur,rfl,by omega,r⟩
theorem own_set {w:World} {B e size n g cap:Nat} {xs:List Value} (h:w.ownsRow B e size (.slice (some ⟨g,0,none⟩) n cap) n xs) (j:Nat) (u:Value) :
    (w.setCell ⟨g,j,none⟩ u).ownsRow B e size (.slice (some ⟨g,0,none⟩) n cap) n (xs.set j u):=by
  refine⟨by rw[List.length_set];exact h.1,?_⟩
  rcases h.2 with ⟨h0,_⟩|⟨g',cap',cur,hv,hg,hh,h1,h2,h3,h4⟩
  ·cases h0
  ·cases hv
   refine .inr ⟨g,cap,cur.setIfInBounds j u,rfl,hg,?_,h1,h2,by simpa using h3,?_⟩
   ·simp[World.setCell,Array.getElem?_modify,hh]
   ·rw[←h4,Array.toList_setIfInBounds,List.take_set]
theorem own_cell {w:World} {B e size n g cap:Nat} {xs:List Value} (h:w.ownsRow B e size (.slice (some ⟨g,0,none⟩) n cap) n xs) (j:Nat) (u:Value) (hj:xs[j]? = some u):w.cell? ⟨g,j,none⟩=some u:=by
  have:=h.cells (g:=g) rfl j u hj
  rwa [Addr.add_lit,Nat.zero_add] at this
theorem own_frozen {w:World} {B e size n g cap:Nat} {xs:List Value} (h:w.ownsRow B e size (.slice (some ⟨g,0,none⟩) n cap) n xs) (j:Nat):w.frozen? ⟨g,j,none⟩=false:=by
  rcases h.2 with ⟨h0,_⟩|⟨g',cap',cur,hv,_,hh,_⟩
  ·cases h0
  ·cases hv;simp[World.frozen?,hh]
theorem own_le {w:World} {B e size n n' g cap:Nat} {xs:List Value} (h:w.ownsRow B e size (.slice (some ⟨g,0,none⟩) n' cap) n xs):n'=n∧n≤cap∧cap≤maxLen∧B≤g∧g<w.heap.size:=by
  rcases h.2 with ⟨h0,_⟩|⟨g',cap',cur,hv,hg,hh,h1,h2,_⟩
  ·cases h0
  ·cases hv;exact⟨rfl,h1,h2,hg,(Array.getElem?_eq_some_iff.1 hh).1⟩
theorem own_some {w:World} {B e size n:Nat} {v:Value} {xs:List Value} (h:w.ownsRow B e size v (n+1) xs):∃g cap,v=.slice (some ⟨g,0,none⟩) (n+1) cap:=by
  rcases h.2 with ⟨_,h0⟩|⟨g,cap,_,h0,_⟩
  ·omega
  ·exact⟨g,cap,h0⟩
def Rd (w:World) (B sz:Nat) (v:Value) (n:Nat) (xs:List Value):Prop:=
  xs.length=n*sz∧∃A c,v=.slice A n c∧n≤c∧c≤maxLen∧(A=none→c=0)∧(0<n→∃g o,A=some ⟨g,o,none⟩∧g<B∧∀j u,xs[j]? = some u→w.cell? ⟨g,o+j,none⟩=some u)
theorem Rd.keep {w w':World} {B B' sz n:Nat} {v:Value} {xs:List Value} (h:Rd w B sz v n xs) (hb:Below B' w w') (hB:B≤B'):Rd w' B' sz v n xs:=by
  obtain⟨h1,A,c,h2,h3,h4,h5,h6⟩:=h
  refine⟨h1,A,c,h2,h3,h4,h5,fun hn=>?_⟩
  obtain⟨g,o,ha,hg,hc⟩:=h6 hn
  exact⟨g,o,ha,by omega,fun j u hj=>(hb.cell (p:=⟨g,o+j,none⟩) (show g<B' by omega)).trans (hc j u hj)⟩
theorem Rd.mono {w:World} {B B' sz n:Nat} {v:Value} {xs:List Value} (h:Rd w B sz v n xs) (hB:B≤B'):Rd w B' sz v n xs:=by
  obtain⟨h1,A,c,h2,h3,h4,h5,h6⟩:=h
  refine⟨h1,A,c,h2,h3,h4,h5,fun hn=>?_⟩
  obtain⟨g,o,ha,hg,hc⟩:=h6 hn
  exact⟨g,o,ha,by omega,hc⟩
theorem Rd.next {w w':World} {sz n:Nat} {v:Value} {xs:List Value} (h:Rd w w.heap.size sz v n xs) (hb:Below w.heap.size w w'):Rd w' w'.heap.size sz v n xs:=
  (h.keep hb (Nat.le_refl _)).mono hb.size
theorem Rd.drewN {w:World} {B sz n:Nat} {v:Value} {xs:List Value} (h:Rd w B sz v n xs) (k:Nat):Rd (w.drewN k) B sz v n xs:=h
theorem Rd.drew {w:World} {B sz n:Nat} {v:Value} {xs:List Value} (h:Rd w B sz v n xs):Rd w.drew B sz v n xs:=h
theorem Rd.alloc {w:World} {B sz n:Nat} {v:Value} {xs:List Value} (h:Rd w B sz v n xs) (hB:B≤w.heap.size) (o:Obj):Rd (w.alloc o) B sz v n xs:=
  h.keep (Below.alloc (Below.refl _ _) hB o) (Nat.le_refl _)
theorem Rd.grown {w w':World} {B sz n m g o c:Nat} {row:Option Nat} {xs:List Value} (h:Rd w B sz (.slice (some ⟨g,o,none⟩) n c) m xs) (hg:w.grownBy w' row) (hr:some g≠row):Rd w' B sz (.slice (some ⟨g,o,none⟩) n c) m xs:=by
  obtain⟨h1,A,c',h2,h3,h4,h5,h6⟩:=h
  refine⟨h1,A,c',h2,h3,h4,h5,fun hn=>?_⟩
  obtain⟨g',o',ha,hg',hc⟩:=h6 hn
  subst ha
  injection h2 with h2 _ _
  injection h2 with h2
  injection h2 with h2 h2'
  subst h2
  exact⟨g,o',rfl,hg',fun j u hj=>hg.cell (a:=⟨g,o'+j,none⟩) (hc j u hj) hr⟩
theorem Rd.of_own {w:World} {B e sz n:Nat} {v:Value} {xs:List Value} (h:w.ownsRow B e sz v n xs):Rd w w.heap.size sz v n xs:=by
  refine⟨h.1,?_⟩
  rcases h.2 with ⟨rfl,rfl⟩|⟨g,cap,cur,rfl,hg,hh,h1,h2,h3,h4⟩
  ·exact⟨none,0,rfl,by omega,by unfold maxLen;omega,fun _=>rfl,fun h=>by omega⟩
  ·refine⟨some ⟨g,0,none⟩,cap,rfl,h1,h2,by simp,fun _=>⟨g,0,rfl,(Array.getElem?_eq_some_iff.1 hh).1,fun j u hj=>?_⟩⟩
   rw[Nat.zero_add]
   exact own_cell h j u hj
theorem Rd.nil (w:World) (B sz:Nat):Rd w B sz (.slice none 0 0) 0 []:=
  ⟨by simp,none,0,rfl,by omega,by unfold maxLen;omega,fun _=>rfl,fun h=>by omega⟩
theorem Rd.take {w:World} {B sz n c:Nat} {A:Option Addr} {xs:List Value} (h:Rd w B sz (.slice A n c) n xs) {k:Nat} (hk:k≤n):Rd w B sz (.slice A k c) k (xs.take (k*sz)):=by
  obtain⟨h1,A',c',h2,h3,h4,h5,h6⟩:=h
  cases h2
  refine⟨?_,A,c,rfl,by omega,h4,h5,fun hn=>?_⟩
  ·rw[List.length_take,h1];exact Nat.min_eq_left (Nat.mul_le_mul_right _ hk)
  ·obtain⟨g,o,ha,hg,hc⟩:=h6 (by omega)
   refine⟨g,o,ha,hg,fun j u hj=>hc j u ?_⟩
   rw[List.getElem?_take] at hj
   split at hj
   ·exact hj
   ·cases hj
theorem run_append_rd {P:Program} (w:World) (base:Nat) (t ty e:TypeId) (i:TypeInfo) (z:Value) (size bytes:Nat) (ht:P.underlying t=some (.slice e)) (hi:P.info? e=some i) (hz:i.zero=some z)
    (hsize:i.size=size) (hby:i.bytes=bytes) (hzs:z.cells.size=size) (hsz:0<size)
    (v:Value) (n:Nat) (xs:List Value) (hown:w.ownsRow base e size v n xs)
    (x:Value) (m B:Nat) (news:List Value) (hr:Rd w B size x m news) (h1:∀u∈news,u.oneCell'=true)
    (h63:n+m≤maxLen) (hbytes:(n+m)*bytes≤140737488355328) (hbase:base≤w.heap.size) :
    ∃v' w',(Builtin.append_ #[t,t] ty #[v,x]).run P w=.ok v' w'∧w'.ownsRow base e size v' (n+m) (xs++news)∧w.grownBy w' v.ownBlock∧(v'.ownBlock=v.ownBlock∨v'.ownBlock=some w.heap.size):=by
  obtain⟨hl,A,c,rfl,hmc,hcm,hA,hcs⟩:=hr
  cases A with
  | none=>
    obtain rfl:=hA rfl
    obtain rfl:m=0:=by omega
    obtain rfl:news=[]:=List.eq_nil_of_length_eq_zero (by simpa using hl)
    refine⟨v,w,?_,by simpa using hown,⟨rfl,rfl,rfl,Nat.le_refl _,fun _ _ _=>rfl⟩,.inl rfl⟩
    rcases hown.2 with ⟨rfl,rfl⟩|⟨g,cap,cur,rfl,_,_,hnc,_⟩
    ·simp[Builtin.append_,run_underlying ht,sizeOf,typeInfo,hi,Builtin.lenOf,Builtin.firstCells]
    ·simp[Builtin.append_,run_underlying ht,sizeOf,typeInfo,hi,Builtin.lenOf,Builtin.firstCells,hnc,storeCells]
  | some ad=>
    have hc:∀j u,news[j]? = some u→w.cell? (ad.add j)=some u:=by
      intro j u hu
      rcases Nat.eq_zero_or_pos m with h0|h0
      ·subst h0
       obtain rfl:news=[]:=List.eq_nil_of_length_eq_zero (by simpa using hl)
       simp at hu
      ·obtain⟨g,o,ha,_,hc⟩:=hcs h0
       injection ha with ha
       subst ha
       rw[Addr.add_lit]
       exact hc j u hu
    obtain⟨v',w',hrun,h2,h3,_,h5⟩:=run_append_own_at (P:=P) w base t ty e i z size bytes ht hi hz hsize hby hzs hsz v n xs hown ad m c news hl hc h1 h63 hbytes hbase
    exact⟨v',w',hrun,h2,h3,h5⟩
theorem wp_append_rd {P:Program} {w:World} {o:Oper} {a:Act} {K:Act→World→Prop} {Q:Exit→Act→World→Prop} (s x:Operand) (t:TypeId)
    (ho:o.op=.call {callee:=.builtin .append,args:=#[s,x],argTypes:=#[t,t]})
    (base:Nat) (e:TypeId) (i:TypeInfo) (z:Value) (size bytes:Nat) (ht:P.underlying t=some (.slice e)) (hi:P.info? e=some i) (hz:i.zero=some z)
    (hsize:i.size=size) (hby:i.bytes=bytes) (hzs:z.cells.size=size) (hsz:0<size)
    (v:Value) (n:Nat) (xs:List Value) (hs:a.eval s=v) (hown:w.ownsRow base e size v n xs)
    (y:Value) (m B:Nat) (news:List Value) (hx:a.eval x=y) (hr:Rd w B size y m news) (h1:∀u∈news,u.oneCell'=true)
    (h63:n+m≤maxLen) (hbytes:(n+m)*bytes≤140737488355328) (hbase:base≤w.heap.size)
    (h:∀v' w',w'.ownsRow base e size v' (n+m) (xs++news)→w.grownBy w' v.ownBlock→(v'.ownBlock=v.ownBlock∨v'.ownBlock=some w.heap.size)→K (a.put o.dst v') w'):o.wp P a w K Q:=by
  obtain⟨v',w',hrun,h2,h3,h4⟩:=run_append_rd (P:=P) w base t o.type e i z size bytes ht hi hz hsize hby hzs hsz v n xs hown y m B news hr h1 h63 hbytes hbase
  unfold Oper.wp execOp
  simp only[ho,resolve,invoke,builtin,Sem.run_bind,Sem.run_pure,Result.andThen_ok,List.map_toArray,List.map_cons,List.map_nil,hs,hx,hrun]
  exact h v' w' h2 h3 h4
theorem wpList_append_rd {P:Program} {w:World} {ops:Array Oper} {rest:List Oper} {o:Oper} {a:Act} {Q:Exit→Act→World→Prop} (hgd:o.guard=none) (s x:Operand) (t:TypeId)
    (ho:o.op=.call {callee:=.builtin .append,args:=#[s,x],argTypes:=#[t,t]})
    (base:Nat) (e:TypeId) (i:TypeInfo) (z:Value) (size bytes:Nat) (ht:P.underlying t=some (.slice e)) (hi:P.info? e=some i) (hz:i.zero=some z)
    (hsize:i.size=size) (hby:i.bytes=bytes) (hzs:z.cells.size=size) (hsz:0<size)
    (v:Value) (n:Nat) (xs:List Value) (hs:a.eval s=v) (hown:w.ownsRow base e size v n xs)
    (y:Value) (m B:Nat) (news:List Value) (hx:a.eval x=y) (hr:Rd w B size y m news) (h1:∀u∈news,u.oneCell'=true)
    (h63:n+m≤maxLen) (hbytes:(n+m)*bytes≤140737488355328) (hbase:base≤w.heap.size)
    (h:∀v' w',w'.ownsRow base e size v' (n+m) (xs++news)→w.grownBy w' v.ownBlock→(v'.ownBlock=v.ownBlock∨v'.ownBlock=some w.heap.size)→wpList P ops Q rest (a.put o.dst v') w'):wpList P ops Q (o::rest) a w:=
  wpList_plain hgd fun _ hK=>wp_append_rd s x t ho base e i z size bytes ht hi hz hsize hby hzs hsz v n xs hs hown y m B news hx hr h1 h63 hbytes hbase fun v' w' h2 h3 h4=>hK _ _ (h v' w' h2 h3 h4)
theorem step_append_rd {P:Program} {w:World} {ops:Array Oper} {o:Oper} {a:Act} {K:Act→World→Prop} {Q:Exit→Act→World→Prop} {E:Prop} (hgd:o.guard=none) (s x:Operand) (t:TypeId)
    (ho:o.op=.call {callee:=.builtin .append,args:=#[s,x],argTypes:=#[t,t]})
    (base:Nat) (e:TypeId) (i:TypeInfo) (z:Value) (size bytes:Nat) (ht:P.underlying t=some (.slice e)) (hi:P.info? e=some i) (hz:i.zero=some z)
    (hsize:i.size=size) (hby:i.bytes=bytes) (hzs:z.cells.size=size) (hsz:0<size)
    (v:Value) (n:Nat) (xs:List Value) (hs:a.eval s=v) (hown:w.ownsRow base e size v n xs)
    (y:Value) (m B:Nat) (news:List Value) (hx:a.eval x=y) (hr:Rd w B size y m news) (h1:∀u∈news,u.oneCell'=true)
    (h63:n+m≤maxLen) (hbytes:(n+m)*bytes≤140737488355328) (hbase:base≤w.heap.size)
    (h:∀v' w',w'.ownsRow base e size v' (n+m) (xs++news)→w.grownBy w' v.ownBlock→(v'.ownBlock=v.ownBlock∨v'.ownBlock=some w.heap.size)→K (a.put o.dst v') w') :
    if Region.wanted o (yielded ops a.tmps)=true then Oper.wp P o a w K Q else E:=by
  have hw:Region.wanted o (yielded ops a.tmps)=true:=by simp[Region.wanted,hgd]
  rw[if_pos hw]
  exact wp_append_rd s x t ho base e i z size bytes ht hi hz hsize hby hzs hsz v n xs hs hown y m B news hx hr h1 h63 hbytes hbase h
theorem rd_new (w:World) (cs:List Value) (t:TypeId) (sz m:Nat) (hl:cs.length=m*sz) (hm:m≤1000):Rd (w.alloc (.cells cs.toArray t)) (w.heap.size+1) sz (.slice (some ⟨w.heap.size,0,none⟩) m m) m cs:=by
  refine⟨hl,_,_,rfl,Nat.le_refl _,by unfold maxLen;omega,by simp,fun _=>⟨w.heap.size,0,rfl,by omega,fun j u hj=>?_⟩⟩
  rw[Nat.zero_add,Bk.cell (Bk.new w t cs.toArray)]
  simpa using hj
theorem gen1 {P:Program} {c:Code} {Q:Exit→Act→World→Prop} {a:Act} {w:World} {cs1:Array Value} {t1:TypeId}
    (h:∀W,Below w.heap.size w W→Bk W w.heap.size t1 cs1→W.heap.size=w.heap.size+1→c.wp P Q a W):c.wp P Q a (w.alloc (.cells cs1 t1)):=
  h _ ((Below.refl _ _).alloc (Nat.le_refl _) _) (Bk.new _ _ _) (by simp)
theorem gen2 {P:Program} {c:Code} {Q:Exit→Act→World→Prop} {a:Act} {w:World} {cs1 cs2:Array Value} {t1 t2:TypeId}
    (h:∀W,Below w.heap.size w W→Bk W w.heap.size t1 cs1→Bk W (w.heap.size+1) t2 cs2→W.heap.size=w.heap.size+2→c.wp P Q a W):c.wp P Q a ((w.alloc (.cells cs1 t1)).alloc (.cells cs2 t2)):=
  h _ (((Below.refl _ _).alloc (Nat.le_refl _) _).alloc (by simp) _) ((Bk.new _ _ _).alloc _) (by simpa using Bk.new (w.alloc (.cells cs1 t1)) t2 cs2) (by simp)
def Rt (w:World) (e:TypeId) (sz:Nat) (v:Value) (n:Nat) (xs:List Value):Prop:=
  xs.length=n*sz∧∃A c,v=.slice A n c∧n≤c∧c≤maxLen∧(A=none→c=0)∧(0<n→∃g o cur fr,A=some ⟨g,o,none⟩∧w.heap[g]? = some (.cells cur e fr)∧∀j u,xs[j]? = some u→w.cell? ⟨g,o+j,none⟩=some u)
theorem Rt.rd {w:World} {e:TypeId} {sz n:Nat} {v:Value} {xs:List Value} (h:Rt w e sz v n xs):Rd w w.heap.size sz v n xs:=by
  obtain⟨h1,A,c,h2,h3,h4,h5,h6⟩:=h
  refine⟨h1,A,c,h2,h3,h4,h5,fun hn=>?_⟩
  obtain⟨g,o,cur,fr,ha,hg,hc⟩:=h6 hn
  exact⟨g,o,ha,(Array.getElem?_eq_some_iff.1 hg).1,hc⟩
theorem Rt.next {w w':World} {e:TypeId} {sz n:Nat} {v:Value} {xs:List Value} (h:Rt w e sz v n xs) (hb:Below w.heap.size w w'):Rt w' e sz v n xs:=by
  obtain⟨h1,A,c,h2,h3,h4,h5,h6⟩:=h
  refine⟨h1,A,c,h2,h3,h4,h5,fun hn=>?_⟩
  obtain⟨g,o,cur,fr,ha,hg,hc⟩:=h6 hn
  have hl:=(Array.getElem?_eq_some_iff.1 hg).1
  exact⟨g,o,cur,fr,ha,(hb.block g hl).trans hg,fun j u hj=>(hb.cell (p:=⟨g,o+j,none⟩) hl).trans (hc j u hj)⟩
theorem Rt.keep {w w':World} {e:TypeId} {sz n:Nat} {v:Value} {xs:List Value} (h:Rt w e sz v n xs) {row:Option Nat} (hg:w.grownBy w' row) (hr:∀k,row=some k→∃t cs fr,w.heap[k]? = some (.cells cs t fr)∧e≠t):Rt w' e sz v n xs:=by
  obtain⟨h1,A,c,h2,h3,h4,h5,h6⟩:=h
  refine⟨h1,A,c,h2,h3,h4,h5,fun hn=>?_⟩
  obtain⟨g,o,cur,fr,ha,hh,hc⟩:=h6 hn
  have hl:=(Array.getElem?_eq_some_iff.1 hh).1
  have hne:some g≠row:=by
    intro he
    obtain⟨t,cs,fr',hk,ht⟩:=hr g he.symm
    rw[hh] at hk
    injection hk with hk
    injection hk with _ hk
    exact ht hk
  exact⟨g,o,cur,fr,ha,(hg.block g hl hne).trans hh,fun j u hj=>hg.cell (a:=⟨g,o+j,none⟩) (hc j u hj) hne⟩
theorem Rt.of_own {w:World} {B:Nat} {e:TypeId} {sz n:Nat} {v:Value} {xs:List Value} (h:w.ownsRow B e sz v n xs):Rt w e sz v n xs:=by
  refine⟨h.1,?_⟩
  rcases h.2 with ⟨rfl,rfl⟩|⟨g,cap,cur,rfl,hg,hh,h1,h2,h3,h4⟩
  ·exact⟨none,0,rfl,by omega,by unfold maxLen;omega,fun _=>rfl,fun h=>by omega⟩
  ·refine⟨some ⟨g,0,none⟩,cap,rfl,h1,h2,by simp,fun _=>⟨g,0,cur,_,rfl,hh,fun j u hj=>?_⟩⟩
   rw[Nat.zero_add]
   exact own_cell h j u hj
theorem Rt.nil (w:World) (e:TypeId) (sz:Nat):Rt w e sz (.slice none 0 0) 0 []:=
  ⟨by simp,none,0,rfl,by omega,by unfold maxLen;omega,fun _=>rfl,fun h=>by omega⟩
theorem Rt.take {w:World} {e:TypeId} {sz n c:Nat} {A:Option Addr} {xs:List Value} (h:Rt w e sz (.slice A n c) n xs) {k:Nat} (hk:k≤n):Rt w e sz (.slice A k c) k (xs.take (k*sz)):=by
  obtain⟨h1,A',c',h2,h3,h4,h5,h6⟩:=h
  cases h2
  refine⟨?_,A,c,rfl,by omega,h4,h5,fun hn=>?_⟩
  ·rw[List.length_take,h1];exact Nat.min_eq_left (Nat.mul_le_mul_right _ hk)
  ·obtain⟨g,o,cur,fr,ha,hg,hc⟩:=h6 (by omega)
   refine⟨g,o,cur,fr,ha,hg,fun j u hj=>hc j u ?_⟩
   rw[List.getElem?_take] at hj
   split at hj
   ·exact hj
   ·cases hj
theorem Rt.le {w:World} {e:TypeId} {sz n m c:Nat} {A:Option Addr} {xs:List Value} (h:Rt w e sz (.slice A m c) n xs):m=n∧n≤c∧c≤maxLen:=by
  obtain⟨_,A',c',h2,h3,h4,_⟩:=h
  cases h2
  exact⟨rfl,h3,h4⟩
theorem Rt.form {w:World} {e:TypeId} {sz n:Nat} {v:Value} {xs:List Value} (h:Rt w e sz v n xs):∃A c,v=.slice A n c:=by
  obtain⟨_,A,c,h2,_⟩:=h
  exact⟨A,c,h2⟩
theorem Bk.row {w:World} {g:Nat} {t:TypeId} {cs:Array Value} (h:Bk w g t cs) {e:TypeId} (he:e≠t):∀k,some g=some k→∃t cs fr,w.heap[k]? = some (.cells cs t fr)∧e≠t:=by
  intro k hk
  injection hk with hk
  subst hk
  exact⟨t,cs,_,h,he⟩
theorem grown_set {w w':World} {c:Nat} (h:w.grownBy w' (some c)) (i:Nat) (v:Value):w.grownBy (w'.setCell ⟨c,i,none⟩ v) (some c):=
  ⟨h.os,h.tape,h.output,by simpa [World.setCell] using h.size,fun k hk hne=>(Below.heap_setCell _ _ _ _ (fun e=>hne (by rw[e]))).trans (h.block k hk hne)⟩
theorem grown_refl (w:World) (row:Option Nat):w.grownBy w row:=⟨rfl,rfl,rfl,Nat.le_refl _,fun _ _ _=>rfl⟩
theorem fin3 {P:Program} {fn:Func} {R:Ending→World→Prop} {e:Exit} {a:Act} {w:World} {c:Nat} {t:TypeId} {u0 u1 u2 v0 v1 v2:Value} (hb:Bk w c t #[u0,u1,u2])
    (h:∀F,Bk F c t #[v0,v1,v2]→w.grownBy F (some c)→F.cell? ⟨c,0,none⟩=some v0→F.cell? ⟨c,1,none⟩=some v1→F.cell? ⟨c,2,none⟩=some v2→bodyPost P fn R e a F) :
    bodyPost P fn R e a (((w.setCell ⟨c,0,none⟩ v0).setCell ⟨c,1,none⟩ v1).setCell ⟨c,2,none⟩ v2):=by
  have hF:Bk (((w.setCell ⟨c,0,none⟩ v0).setCell ⟨c,1,none⟩ v1).setCell ⟨c,2,none⟩ v2) c t #[v0,v1,v2]:=by simpa using ((hb.set 0 v0).set 1 v1).set 2 v2
  exact h _ hF (grown_set (grown_set (grown_set (grown_refl _ _) _ _) _ _) _ _) (by rw[hF.cell];rfl) (by rw[hF.cell];rfl) (by rw[hF.cell];rfl)
theorem Bk.three {w:World} {g:Nat} {t:TypeId} {x y z:Value} (h:Bk w g t #[x,y,z]):w.cell? ⟨g,0,none⟩=some x∧w.cell? ⟨g,1,none⟩=some y∧w.cell? ⟨g,2,none⟩=some z∧w.frozen? ⟨g,0,none⟩=false∧w.frozen? ⟨g,1,none⟩=false∧w.frozen? ⟨g,2,none⟩=false:=
  ⟨by rw[h.cell];rfl,by rw[h.cell];rfl,by rw[h.cell];rfl,h.frozen _,h.frozen _,h.frozen _⟩
theorem bk_second (w:World) (cs1 cs2:Array Value) (t1 t2:TypeId):Bk ((w.alloc (.cells cs1 t1)).alloc (.cells cs2 t2)) (w.heap.size+1) t2 cs2:=by
  simpa using Bk.new (w.alloc (.cells cs1 t1)) t2 cs2
def bvals (l:List UInt8):List Value:=l.map fun b=>.int .u8 (b.toNat:Int)
theorem bvals_snoc (l:List UInt8) (b:UInt8):bvals (l++[b])=bvals l++[.int .u8 (b.toNat:Int)]:=by simp[bvals]
theorem one_bytes (l:List UInt8):∀u∈bvals l,u.oneCell'=true:=by
  intro u hu
  obtain⟨x,_,rfl⟩:=List.mem_map.1 hu
  rfl
theorem Tryz.infoByte:(Tryz.prog.info? 5).map (fun i=>(i.zero,i.size,i.bytes))=some (some (.int .u8 0),1,1):=by kernel_rfl
end Go.Proofs.YtlbfdbinaekjoaaGreatDoor
namespace Go.Proofs.YtlbfdbinaekjoaaGreatDoor
open Go.RowKit
set_option linter.unusedVariables false
set_option linter.unusedSimpArgs false
set_option maxRecDepth 100000
theorem own_form' {W:World} {N e size k:Nat} {v:Value} {xs:List Value} (h:W.ownsRow N e size v k xs):∃A n c,v=.slice A n c:=by
  rcases h.2 with ⟨rfl,_⟩|⟨g,cap,cur,rfl,_⟩
  ·exact⟨_,_,_,rfl⟩
  ·exact⟨_,_,_,rfl⟩
theorem own_len {W:World} {N e size k n c:Nat} {A:Option Addr} {xs:List Value} (h:W.ownsRow N e size (.slice A n c) k xs):n=k:=by
  rcases h.2 with ⟨h0,h1⟩|⟨g,cap,cur,h0,_⟩
  ·cases h0;omega
  ·cases h0;rfl
def KT (T:List TypeId) (w w':World):Prop:=∀(k:Nat) (o:Obj),w.heap[k]? = some o→(∀(cs:Array Value) (t:TypeId) (fr:Nat×Nat),o=Obj.cells cs t fr→t∉T)→w'.heap[k]? = some o
theorem KT.refl (T:List TypeId) (w:World):KT T w w:=fun _ _ h _=>h
theorem KT.trans {T:List TypeId} {a b c:World} (h:KT T a b) (h':KT T b c):KT T a c:=fun k o hk ho=>h' k o (h k o hk ho) ho
theorem KT.drewN {T:List TypeId} {a b:World} (h:KT T a b) (n:Nat):KT T a (b.drewN n):=h
theorem KT.drew {T:List TypeId} {a b:World} (h:KT T a b):KT T a b.drew:=h
theorem KT.of_below {T:List TypeId} {w w':World} (h:Below w.heap.size w w'):KT T w w':=fun k o hk _=>(h.block k (Array.getElem?_eq_some_iff.1 hk).1).trans hk
theorem KT.alloc {T:List TypeId} {a b:World} (h:KT T a b) (o:Obj):KT T a (b.alloc o):=h.trans (KT.of_below (Below.alloc (Below.refl _ _) (Nat.le_refl _) o))
theorem KT.setCell {T:List TypeId} {a b:World} (h:KT T a b) {g:Nat} {cs:Array Value} {t:TypeId} {fr:Nat×Nat} (hg:b.heap[g]? = some (.cells cs t fr)) (ht:t∈T) (i:Nat) (v:Value):KT T a (b.setCell ⟨g,i,none⟩ v):=by
  intro k o hk ho
  have h1:=h k o hk ho
  by_cases e:k=g
  ·subst e
   rw[hg] at h1
   cases h1
   exact absurd ht (ho _ _ _ rfl)
  ·exact(Below.heap_setCell _ _ _ k e).trans h1
theorem KT.grown {T:List TypeId} {a b c:World} (h:KT T a b) {row:Option Nat} (hg:b.grownBy c row) (hr:∀k,row=some k→∃(cs:Array Value) (t:TypeId) (fr:Nat×Nat),b.heap[k]? = some (.cells cs t fr)∧t∈T):KT T a c:=by
  intro k o hk ho
  have h1:=h k o hk ho
  refine(hg.block k (Array.getElem?_eq_some_iff.1 h1).1 ?_).trans h1
  intro e
  obtain⟨cs,t,fr,h2,ht⟩:=hr k e.symm
  rw[h1] at h2
  cases h2
  exact ho _ _ _ rfl ht
theorem own_blk {w:World} {B e sz n:Nat} {v:Value} {xs:List Value} (h:w.ownsRow B e sz v n xs):∀k,v.ownBlock=some k→∃(cs:Array Value) (t:TypeId) (fr:Nat×Nat),w.heap[k]? = some (.cells cs t fr)∧t=e:=by
  intro k hk
  rcases h.2 with ⟨rfl,_⟩|⟨g,cap,cur,rfl,_,hh,_⟩
  ·simp[Value.ownBlock] at hk
  ·have:g=k:=by simpa [Value.ownBlock] using hk
   subst this
   exact⟨cur,e,_,hh,rfl⟩
theorem own_heap {w:World} {B e sz n g c m:Nat} {xs:List Value} (h:w.ownsRow B e sz (.slice (some ⟨g,0,none⟩) m c) n xs):w.heap[g]? = some (.cells ((w.heap[g]?.bind fun o=>match o with | .cells cs _ _=>some cs|_=>none).getD #[]) e (0,0)):=by
  rcases h.2 with ⟨h0,_⟩|⟨g',cap,cur,hv,_,hh,_⟩
  ·cases h0
  ·cases hv
   rw[hh]
   rfl
theorem Bk.kt {T:List TypeId} {w w':World} {g:Nat} {t:TypeId} {cs:Array Value} (h:Bk w g t cs) (hk:KT T w w') (ht:t∉T):Bk w' g t cs:=hk g _ h (by rintro _ _ _ ⟨⟩;exact ht)
theorem own_kt {T:List TypeId} {w w':World} {B e sz n:Nat} {v:Value} {xs:List Value} (h:w.ownsRow B e sz v n xs) (hk:KT T w w') (ht:e∉T):w'.ownsRow B e sz v n xs:=by
  refine⟨h.1,?_⟩
  rcases h.2 with h2|⟨g,cap,cur,rfl,hg,hh,r⟩
  ·exact .inl h2
  ·exact .inr ⟨g,cap,cur,rfl,hg,hk g _ hh (by rintro _ _ _ ⟨⟩;exact ht),r⟩
end Go.Proofs.YtlbfdbinaekjoaaGreatDoor
namespace Go.Proofs.YtlbfdbinaekjoaaGreatDoor
open Go.RowKit Go.ChangeShapes Go.WideShapes Go.Deep
set_option linter.unusedVariables false
set_option linter.unusedSimpArgs false
set_option maxRecDepth 100000
theorem flat_get {α:Type} {sz:Nat}:∀(rows:List (List α)),(∀r∈rows,r.length=sz)→∀(j:Nat) (u:α),rows.flatten[j]? = some u→∃i k r,j=i*sz+k∧k<sz∧rows[i]? = some r∧r[k]? = some u
  | [],_,j,u,h=>by simp at h
  | r::rows,hr,j,u,h=>by
    have h0:=hr r (by simp)
    by_cases hj:j<sz
    ·rw[List.flatten_cons,List.getElem?_append_left (by omega)] at h
     exact⟨0,j,r,by omega,hj,rfl,h⟩
    ·rw[List.flatten_cons,List.getElem?_append_right (by omega),h0] at h
     obtain⟨i,k,r',e,hk,hi,hu⟩:=flat_get rows (fun r hr'=>hr r (by simp[hr'])) _ u h
     exact⟨i+1,k,r',by rw[Nat.add_mul];omega,hk,by simpa using hi,hu⟩
theorem block_of_cell {w:World} {a:Addr} {v:Value} (h:w.cell? a=some v):a.block<w.heap.size:=by
  unfold World.cell? at h
  cases hb:w.heap[a.block]? with
  | none=>simp[hb] at h
  | some o=>exact(Array.getElem?_eq_some_iff.1 hb).1
theorem open_rows {H:Type} {enc:TypeId×Value→H} {P:Program} {w:World} {sp:Nat→Bool} {held:Bool} {t e:TypeId} {sz:Nat} {Q:List Value→Prop} {A:Option Addr} {len cap:Nat} {d:DataW H} {ps:List MemPlace}
    (ht:P.underlying t=some (.slice e)) (ce:P.cellsOf e=sz) (hsz:0<sz)
    (hQ:∀(n:Nat) (cs:List Value) (x:DataW H×List MemPlace),cs.length=sz→DataW.trod enc P w 0 sp held n e cs=some x→Q cs)
    (hd:DataW.Trod enc P w 0 sp held t (.slice A len cap) d ps) :
    ∃rows:List (List Value),rows.length=len∧(∀r∈rows,r.length=sz∧Q r)∧Rd w w.heap.size sz (.slice A len cap) len rows.flatten:=by
  obtain⟨fuel,hf⟩:=hd
  have hv:(Value.slice A len cap).cells.toList=[.slice A len cap]:=rfl
  rw[hv] at hf
  rcases open_slice ht hf with ⟨h0,_⟩|⟨a,len',cap',m,n,D,Pl,h0,_,hl,hm,hmm,_,hx⟩
  ·simp only[List.cons.injEq,and_true,Value.slice.injEq] at h0
   obtain⟨rfl,rfl,rfl⟩:=h0
   exact⟨[],rfl,by simp,Rd.nil _ _ _⟩
  ·simp only[List.cons.injEq,and_true,Value.slice.injEq] at h0
   obtain⟨rfl,rfl,rfl⟩:=h0
   have hlm:len≤m:=by rw[hmm];split<;>omega
   have each:∀i,i<len→∃r:List Value,r.length=sz∧Q r∧∀k,k<sz→w.cell? ((a.add (i*sz)).add k)=r[k]? := by
     intro i hi
     obtain⟨cs',h1,h2⟩:=hx i (by omega)
     rw[ce] at h1
     obtain⟨_,h3,h4⟩:=World.cells?_some h1
     exact⟨cs',h3,hQ _ _ _ h3 h2,h4⟩
   obtain⟨q,hq⟩:=choose_lt each
   have hrow:∀r∈(List.range len).map q,r.length=sz∧Q r:=by
     intro r hr
     obtain⟨i,hi,rfl⟩:=List.mem_map.1 hr
     have:=hq i (List.mem_range.1 hi)
     exact⟨this.1,this.2.1⟩
   refine⟨(List.range len).map q,by simp,hrow,?_,some a,cap,rfl,hl,hm,by simp,fun h0=>?_⟩
   ·rw[List.length_flatten,List.map_map]
    have:∀(l:List Nat),(∀i∈l,i<len)→((l.map (List.length∘q)).sum=l.length*sz):=by
      intro l
      induction l with
      | nil=>intro _;simp
      | cons i l ih=>
        intro h
        rw[List.map_cons,List.sum_cons,ih (fun j hj=>h j (by simp[hj]))]
        show (q i).length+_=_
        rw[(hq i (h i (by simp))).1,List.length_cons,Nat.add_mul]
        omega
    rw[this _ (fun i hi=>List.mem_range.1 hi)]
    simp
   ·obtain⟨g,o,sp0⟩:=a
    obtain⟨u,hu⟩:∃u,(q 0)[0]? = some u:=⟨_,List.getElem?_eq_getElem (by rw[(hq 0 h0).1];exact hsz)⟩
    have hc:=(hq 0 h0).2.2 0 hsz
    rw[hu] at hc
    have hs:sp0=none:=by simpa [Addr.add] using World.cell?_spot hc
    subst hs
    refine⟨g,o,rfl,by simpa [Addr.add] using block_of_cell hc,fun j u hj=>?_⟩
    obtain⟨i,k,r,rfl,hk,hi,hu⟩:=flat_get _ (fun r hr=>(hrow r hr).1) j u hj
    rw[List.getElem?_map] at hi
    cases hr:(List.range len)[i]? with
    | none=>simp[hr] at hi
    | some i'=>
      obtain⟨hlt,hi'⟩:=List.getElem?_eq_some_iff.1 hr
      simp at hi'
      subst hi'
      rw[hr] at hi
      simp at hi
      subst hi
      have hlt':i<len:=by simpa using hlt
      have:=(hq i hlt').2.2 k hk
      rw[hu,Addr.add_lit,Addr.add_lit] at this
      rw[←Nat.add_assoc]
      exact this
theorem stays_arg {H:Type} {enc:TypeId×Value→H} {P:Program} {t:TypeId} (hl:laidOutB P=true) (hr:P.readableRec t=true) (hrow:t<P.types.size) {W W':World} {sp':Nat→Bool} {v:Value} {d:DataW H} {ps:List MemPlace}
    (h:DataW.Trod enc P W 0 (fun _=>true) true t v d ps) (hb:Below W.heap.size W W') (hlt:∀x∈ps,x.block<W.heap.size) (hs:∀x∈ps,sp' x.block=true):DataW.Trod enc P W' 0 sp' true t v d ps:=
  WideElems.Trod_stays hl hr hrow h (fun x hx=>hb.same (hlt x hx)) hs
inductive FK|i|b|s
def FK.is:FK→TypeDesc→Bool
  | .i,.int .i64=>true
  | .b,.bool=>true
  | .s,.string=>true
  | _,_=>false
def FK.ok:FK→Value→Prop
  | .i,v=>∃n:Int,v=.int .i64 n ∧ -9223372036854775808≤n∧n≤9223372036854775807
  | .b,v=>∃b,v=.bool b
  | .s,v=>∃l:List UInt8,v=.string ⟨l.toArray⟩∧l.length≤9223372036854775807
def fieldsB (P:Program) (fs:Array Field) (ks:List FK):Bool:=
  fs.size==ks.length&&(List.range ks.length).all fun j=>match fs[j]?,ks[j]? with
    | some f,some k=>f.offset==j&&P.cellsOf f.type==1&&(match P.underlying f.type with|some u=>k.is u|none=>false)
    | _,_=>false
def Qk (ks:List FK) (cs:List Value):Prop:=∀(j:Nat) k,ks[j]? = some k→∃v,cs[j]? = some v∧k.ok v
theorem fk_trod {H:Type} {enc:TypeId×Value→H} {P:Program} {w:World} {sp:Nat→Bool} {held:Bool} {n:Nat} {t:TypeId} {u:TypeDesc} {k:FK} {v:Value} {x:DataW H×List MemPlace}
    (ht:P.underlying t=some u) (hk:k.is u=true) (h:DataW.trod enc P w 0 sp held n t [v]=some x):k.ok v:=by
  cases k
  ·cases u<;>try (simp[FK.is] at hk)
   rename_i kd
   cases kd<;>try (simp[FK.is] at hk)
   obtain⟨z,hz,_,hw⟩:=DataW.trod_int ht h
   simp only[List.cons.injEq,and_true] at hz
   exact⟨z,hz,by simpa [Lit.wf,IntKind.min,IntKind.max,IntKind.signed,IntKind.bits] using hw⟩
  ·cases u<;>try (simp[FK.is] at hk)
   obtain⟨z,hz,_⟩:=DataW.trod_bool ht h
   simp only[List.cons.injEq,and_true] at hz
   exact⟨z,hz⟩
  ·cases u<;>try (simp[FK.is] at hk)
   obtain⟨z,hz,_,hw⟩:=DataW.trod_string ht h
   simp only[List.cons.injEq,and_true] at hz
   obtain⟨l,rfl⟩:=ba_of z
   exact⟨l,hz,by unfold maxLen at hw;exact hw⟩
theorem qk_struct {H:Type} {enc:TypeId×Value→H} {P:Program} {w:World} {sp:Nat→Bool} {held:Bool} {n:Nat} {e:TypeId} {fs:Array Field} {ks:List FK} {cs:List Value} {x:DataW H×List MemPlace}
    (he:P.underlying e=some (.struct fs)) (hfs:fieldsB P fs ks=true) (hl:cs.length=ks.length) (h:DataW.trod enc P w 0 sp held n e cs=some x):Qk ks cs:=by
  obtain⟨xs,m,_,_,_,hxl,hf⟩:=DataW.trod_struct he h
  intro j k hj
  unfold fieldsB at hfs
  simp only[Bool.and_eq_true,List.all_eq_true,beq_iff_eq,List.mem_range] at hfs
  have hjl:=(List.getElem?_eq_some_iff.1 hj).1
  have h2:=hfs.2 j hjl
  rw[hj] at h2
  cases hfj:fs[j]? with
  | none=>simp[hfj] at h2
  | some f=>
    rw[hfj] at h2
    simp only[Bool.and_eq_true,beq_iff_eq] at h2
    obtain⟨⟨ho,hc⟩,hu⟩:=h2
    cases hut:P.underlying f.type with
    | none=>simp[hut] at hu
    | some u=>
      rw[hut] at hu
      have:=hf j f hfj
      rw[ho,hc] at this
      obtain⟨v,hv⟩:∃v,cs[j]? = some v:=⟨_,List.getElem?_eq_getElem (by omega)⟩
      have e1:(cs.drop j).take 1=[v]:=by
        apply List.ext_getElem?
        intro i
        rw[List.getElem?_take]
        cases i with
        | zero=>simpa using hv
        | succ i=>simp
      rw[e1] at this
      have hx:j<xs.length:=by rw[hxl,hfs.1];exact hjl
      rw[List.getElem?_eq_getElem hx] at this
      exact⟨v,hv,fk_trod hut hu this⟩
theorem open_structs {H:Type} {enc:TypeId×Value→H} {P:Program} {w:World} {sp:Nat→Bool} {held:Bool} {t e:TypeId} {fs:Array Field} (ks:List FK) {A:Option Addr} {len cap:Nat} {d:DataW H} {ps:List MemPlace}
    (ht:P.underlying t=some (.slice e)) (he:P.underlying e=some (.struct fs)) (hfs:fieldsB P fs ks=true) (ce:P.cellsOf e=ks.length) (hsz:0<ks.length)
    (hd:DataW.Trod enc P w 0 sp held t (.slice A len cap) d ps) :
    ∃rows:List (List Value),rows.length=len∧(∀r∈rows,r.length=ks.length∧Qk ks r)∧Rd w w.heap.size ks.length (.slice A len cap) len rows.flatten:=
  open_rows ht ce hsz (fun n cs x hl h=>qk_struct he hfs hl h) hd
theorem rows_data {α:Type} {ks:List FK} (lay:α→List Value) (h1:∀r:List Value,r.length=ks.length→Qk ks r→∃x,r=lay x):∀rows:List (List Value),(∀r∈rows,r.length=ks.length∧Qk ks r)→∃xs:List α,rows.flatten=xs.flatMap lay∧xs.length=rows.length
  | [],_=>⟨[],rfl,rfl⟩
  | r::rows,h=>by
    obtain⟨xs,e,hl⟩:=rows_data lay h1 rows (fun r hr=>h r (by simp[hr]))
    obtain⟨x,hx⟩:=h1 r (h r (by simp)).1 (h r (by simp)).2
    exact⟨x::xs,by rw[List.flatten_cons,e,List.flatMap_cons,hx],by simp[hl]⟩
end Go.Proofs.YtlbfdbinaekjoaaGreatDoor
