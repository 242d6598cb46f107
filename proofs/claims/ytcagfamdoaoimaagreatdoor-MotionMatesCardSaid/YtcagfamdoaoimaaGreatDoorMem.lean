/- Lemmas on memory, strings and appends that all the walks of this family use; no program is in sight here. -/
import Derived.Test.YtcagfamdoaoimaaGreatDoorPl6
import Derived.Test.YtcagfamdoaoimaaGreatDoorProg
import Derived.WalkKit
import Derived.Handy
import Derived.WalkSmall
import Derived.Deep.Light
import Derived.RegionTactic
import Derived.BigRegion
import Derived.ChangeAlike
import Derived.Deep.QuietTactic
import Derived.BigQuiet
import Derived.Deep.RegionHeld3
import Derived.Deep.RegionLaw
import Derived.Outline
import Derived.Lib.Hide
import Derived.WalkSpells
import Derived.WalkLawsBesides
import Derived.Maps.AppendAt
import Derived.ProofKit
import Derived.OpenShut
import Derived.WideKeyArgs
import Derived.Deep.Slices
import Derived.ChangeSame
set_option linter.unusedVariables false
set_option linter.unusedSimpArgs false
set_option maxRecDepth 100000
set_option maxHeartbeats 8000000
namespace Go.Proofs.YtcagfamdoaoimaaGreatDoor
open Go.RowKit
variable {K:Act→World→Prop} {p:Addr} {ops:Array Oper} {cs cs1 cs2:Array Value} {R:Ending→World→Prop} {Q:Exit→Act→World→Prop} {fn:Func} {rest:List Oper} {T:List TypeId} {xs:List Value} {k g n B e size B' cap n' sz c N:Nat} {fr:Nat×Nat} {o:Oper} {A:Option Addr} {P:Program} {E:Prop} {α:Type} {t t1 t2:TypeId} {v u0 u1 u2 v0 v1 v2:Value} {a w b w' W w1:World} (s:Operand) (l:List UInt8) (x:Operand)
abbrev jL (f:FuncId) (av:Array Value) (w:World) (v:Value):Prop:=Calls Tryz.prog f av w fun e w'=>e=.returned v∧Below w.heap.size w w'
abbrev iG (f:FuncId) (av:Array Value) (w:World) (v:Value):Prop:=Calls Tryz.prog f av w fun e w'=>e=.returned v∧w=w'
abbrev vZ (f:FuncId) (av:Array Value) (w:World) (v:Value):Prop:=Calls Tryz.prog f av w fun e w'=>e=.returned v∧w'=w
abbrev NB (f:FuncId) (av:Array Value) (w:World) (v:Value):Prop:=Calls Tryz.prog f av w fun e w'=>e=.returned v∧∃n,w'=w.drewN n
theorem bn {a:Act} (h:R (.returned (.tuple #[])) w) (hr:fn.results=#[]:=by rfl) (hd:a.defers=[]:=by rfl):bodyPost P fn R Exit.ret a w:=aK (results_none hr _ _ _) hd h
theorem jN {k:IntKind} {a b:Int} (h:a=b):Ending.returned (.int k a)=.returned (.int k b):=by rw[h]
theorem jT {a b:Bool} (h:a=b):Ending.returned (.bool a)=.returned (.bool b):=by rw[h]
theorem dX (a b:Nat):(ByteArray.mk l.toArray).extract a b=⟨((l.take b).drop a).toArray⟩:=by
  apply ByteArray.ext;apply Array.ext';rw[ByteArray.data_extract,Array.toList_extract];simp[List.drop_take]
theorem gY (m:List UInt8):(ByteArray.mk l.toArray)++(ByteArray.mk m.toArray)=⟨(l++m).toArray⟩:=by
  apply ByteArray.ext;apply Array.ext';simp
theorem lz (k:Nat) (h:k<(ByteArray.mk l.toArray).size):(ByteArray.mk l.toArray)[k]'h=l[k]'(show k<l.length from h):=rfl
theorem NQ (s:ByteArray):∃l:List UInt8,s=⟨l.toArray⟩:=⟨s.data.toList,by cases s;simp⟩
def Bk (w:World) (g:Nat) (t:TypeId) (cs:Array Value):Prop:=w.heap[g]? = some (.cells cs t (0,0))
theorem Bk.lt (h:Bk w g t cs):g<w.heap.size:=(aM.1 h).1
theorem Bk.cell (h:Bk w g t cs) (i:Nat):w.cell? ⟨g,i,none⟩=cs[i]? := cell_of_row w g i cs t (0,0) h
theorem Bk.frozen (h:Bk w g t cs) (i:Nat):w.frozen? ⟨g,i,none⟩=false:=by
  unfold Bk at h;simp[World.frozen?,h]
theorem Bk.new (w:World) (t:TypeId) (cs:Array Value):Bk (w.alloc (.cells cs t)) w.heap.size t cs:=heap_alloc_new w _
theorem Bk.drewN (h:Bk w g t cs) (n:Nat):Bk (w.drewN n) g t cs:=h
theorem Bk.drew (h:Bk w g t cs):Bk w.drew g t cs:=h
theorem Bk.alloc (h:Bk w g t cs) (o:Obj):Bk (w.alloc o) g t cs:=(Below.heap_alloc w o g h.lt).trans h
theorem Bk.set (h:Bk w g t cs) (i:Nat) (u:Value):Bk (w.setCell ⟨g,i,none⟩ u) g t (cs.setIfInBounds i u):=by
  unfold Bk at h ⊢;simp[World.setCell,Array.getElem?_modify,h]
theorem Bk.far (h:Bk w g t cs) (hp:g≠p.block) (u:Value):Bk (w.setCell p u) g t cs:=(bK w p u g hp).trans h
theorem Bk.below (h:Bk w g t cs) (hb:Below B w w') (hg:g<B):Bk w' g t cs:=(hb.block g hg).trans h
theorem Bk.grown {row:Option Nat} (h:Bk w g t cs) (hb:w.grownBy w' row) (hg:some g≠row):Bk w' g t cs:=(hb.block g h.lt hg).trans h
theorem eQ {base:Nat} (h:w.ownsRow base e size v n xs) (hg:Bk w g t cs) (hne:e≠t):v.ownBlock≠some g:=by
  rcases h.2 with ⟨rfl,_⟩|⟨g',cap,cur,rfl,_,hh,_⟩
  ·simp[Value.ownBlock]
  ·intro he;obtain rfl:g'=g:=by simpa [Value.ownBlock] using he
   unfold Bk at hg;rw[hh] at hg;injection hg with hg
   injection hg with _ ht
   exact hne ht
theorem dN (h:Below B a w) (n:Nat):Below B a (w.drewN n):=h.trans ⟨rfl,rfl,rfl,au _,fun _ _=>rfl⟩
theorem FG (h:w.ownsRow B e size v n xs) (hb:Below B' w w') (hv:∀k,v.ownBlock=some k→k<B'):w'.ownsRow B e size v n xs:=by
  refine⟨h.1,?_⟩;rcases h.2 with h2|⟨g,cap,cur,rfl,hg,hh,r⟩
  ·exact .inl h2
  ·exact .inr ⟨g,cap,cur,rfl,hg,(hb.block g (hv g rfl)).trans hh,r⟩
theorem dS (h:w.ownsRow B e size v n xs) (hb:Below w.heap.size w w'):w'.ownsRow B e size v n xs:=
  FG h hb fun k hk=>(h.lt k hk).2
theorem ff (h:w.ownsRow B e size v n xs) (hp:v.ownBlock≠some p.block) (u:Value):(w.setCell p u).ownsRow B e size v n xs:=by
  refine⟨h.1,?_⟩;rcases h.2 with h2|⟨g,cap,cur,rfl,hg,hh,r⟩
  ·exact .inl h2
  ·exact .inr ⟨g,cap,cur,rfl,hg,(bK w p u g (fun e=>hp (by simp[Value.ownBlock,e]))).trans hh,r⟩
theorem fy (h:w.ownsRow B e size v n xs):w.drew.ownsRow B e size v n xs:=h
theorem fK (h:w.ownsRow B e size v n xs) (hB:B'≤B):w.ownsRow B' e size v n xs:=by
  refine⟨h.1,?_⟩;rcases h.2 with h2|⟨g,cap,cur,rfl,hg,r⟩
  ·exact .inl h2
  ·exact .inr ⟨g,cap,cur,rfl,by omega,r⟩
theorem mP (h:w.ownsRow B e size (.slice (some ⟨g,0,none⟩) n cap) n xs) (j:Nat) (u:Value) :
    (w.setCell ⟨g,j,none⟩ u).ownsRow B e size (.slice (some ⟨g,0,none⟩) n cap) n (xs.set j u):=by
  refine⟨by rw[List.length_set];exact h.1,?_⟩;rcases h.2 with ⟨h0,_⟩|⟨g',cap',cur,hv,hg,hh,h1,h2,h3,h4⟩
  ·cases h0
  ·cases hv;refine .inr ⟨g,cap,cur.setIfInBounds j u,rfl,hg,?_,h1,h2,by simpa using h3,?_⟩
   ·simp[World.setCell,Array.getElem?_modify,hh]
   ·rw[←h4,Array.toList_setIfInBounds,List.take_set]
theorem dW (h:w.ownsRow B e size (.slice (some ⟨g,0,none⟩) n cap) n xs) (j:Nat) (u:Value) (hj:xs[j]? = some u):w.cell? ⟨g,j,none⟩=some u:=by
  have:=h.cells (g:=g) rfl j u hj
  rwa [Addr.add_lit,cM] at this
theorem gC (h:w.ownsRow B e size (.slice (some ⟨g,0,none⟩) n cap) n xs) (j:Nat):w.frozen? ⟨g,j,none⟩=false:=by
  rcases h.2 with ⟨h0,_⟩|⟨g',cap',cur,hv,_,hh,_⟩
  ·cases h0
  ·cases hv;simp[World.frozen?,hh]
theorem gM (h:w.ownsRow B e size (.slice (some ⟨g,0,none⟩) n' cap) n xs):n'=n∧n≤cap∧cap≤maxLen∧B≤g∧g<w.heap.size:=by
  rcases h.2 with ⟨h0,_⟩|⟨g',cap',cur,hv,hg,hh,h1,h2,_⟩
  ·cases h0
  ·cases hv;exact⟨rfl,h1,h2,hg,(aM.1 hh).1⟩
theorem ir (h:w.ownsRow B e size v (n+1) xs):∃g cap,v=.slice (some ⟨g,0,none⟩) (n+1) cap:=by
  rcases h.2 with ⟨_,h0⟩|⟨g,cap,_,h0,_⟩
  ·omega
  ·exact⟨g,cap,h0⟩
def Rd (w:World) (B sz:Nat) (v:Value) (n:Nat) (xs:List Value):Prop:=
  xs.length=n*sz∧∃A c,v=.slice A n c∧n≤c∧c≤maxLen∧(A=none→c=0)∧(0<n→∃g o,A=some ⟨g,o,none⟩∧g<B∧∀j u,xs[j]? = some u→w.cell? ⟨g,o+j,none⟩=some u)
theorem Rd.keep (h:Rd w B sz v n xs) (hb:Below B' w w') (hB:B≤B'):Rd w' B' sz v n xs:=by
  obtain⟨h1,A,c,h2,h3,h4,h5,h6⟩:=h;refine⟨h1,A,c,h2,h3,h4,h5,fun hn=>?_⟩;obtain⟨g,o,ha,hg,hc⟩:=h6 hn;exact⟨g,o,ha,by omega,fun j u hj=>(hb.cell (p:=⟨g,o+j,none⟩) (show g<B' by omega)).trans (hc j u hj)⟩
theorem Rd.mono (h:Rd w B sz v n xs) (hB:B≤B'):Rd w B' sz v n xs:=by
  obtain⟨h1,A,c,h2,h3,h4,h5,h6⟩:=h;refine⟨h1,A,c,h2,h3,h4,h5,fun hn=>?_⟩;obtain⟨g,o,ha,hg,hc⟩:=h6 hn;exact⟨g,o,ha,by omega,hc⟩
theorem Rd.next (h:Rd w w.heap.size sz v n xs) (hb:Below w.heap.size w w'):Rd w' w'.heap.size sz v n xs:=
  (h.keep hb (au _)).mono hb.size
theorem Rd.drew (h:Rd w B sz v n xs):Rd w.drew B sz v n xs:=h
theorem Rd.alloc (h:Rd w B sz v n xs) (hB:B≤w.heap.size) (o:Obj):Rd (w.alloc o) B sz v n xs:=
  h.keep (aY (aC _ _) hB o) (au _)
theorem Rd.grown {m o:Nat} {row:Option Nat} (h:Rd w B sz (.slice (some ⟨g,o,none⟩) n c) m xs) (hg:w.grownBy w' row) (hr:some g≠row):Rd w' B sz (.slice (some ⟨g,o,none⟩) n c) m xs:=by
  obtain⟨h1,A,c',h2,h3,h4,h5,h6⟩:=h;refine⟨h1,A,c',h2,h3,h4,h5,fun hn=>?_⟩;obtain⟨g',o',ha,hg',hc⟩:=h6 hn;subst ha;injection h2 with h2 _ _
  injection h2 with h2
  injection h2 with h2 h2'
  subst h2;exact⟨g,o',rfl,hg',fun j u hj=>hg.cell (a:=⟨g,o'+j,none⟩) (hc j u hj) hr⟩
theorem Rd.of_own (h:w.ownsRow B e sz v n xs):Rd w w.heap.size sz v n xs:=by
  refine⟨h.1,?_⟩;rcases h.2 with ⟨rfl,rfl⟩|⟨g,cap,cur,rfl,hg,hh,h1,h2,h3,h4⟩
  ·exact⟨none,0,rfl,by omega,by unfold maxLen;omega,fun _=>rfl,fun h=>by omega⟩
  ·refine⟨some ⟨g,0,none⟩,cap,rfl,h1,h2,by simp,fun _=>⟨g,0,rfl,(aM.1 hh).1,fun j u hj=>?_⟩⟩;rw[cM];exact dW h j u hj
theorem Rd.take (h:Rd w B sz (.slice A n c) n xs) (hk:k≤n):Rd w B sz (.slice A k c) k (xs.take (k*sz)):=by
  obtain⟨h1,A',c',h2,h3,h4,h5,h6⟩:=h
  cases h2;refine⟨?_,A,c,rfl,by omega,h4,h5,fun hn=>?_⟩
  ·rw[cm,h1];exact de (dh _ hk)
  ·obtain⟨g,o,ha,hg,hc⟩:=h6 (by omega);refine⟨g,o,ha,hg,fun j u hj=>hc j u ?_⟩;rw[dj] at hj;split at hj
   ·exact hj
   ·cases hj
theorem jM (w:World) (base:Nat) (t ty e:TypeId) (i:TypeInfo) (z:Value) (size bytes:Nat) (ht:P.underlying t=some (.slice e)) (hi:P.info? e=some i) (hz:i.zero=some z) (hsize:i.size=size) (hby:i.bytes=bytes) (hzs:z.cells.size=size) (hsz:0<size) (v:Value) (n:Nat) (xs:List Value) (hown:w.ownsRow base e size v n xs) (x:Value) (m B:Nat) (news:List Value) (hr:Rd w B size x m news) (h1:∀u∈news,u.oneCell'=true) (h63:n+m≤maxLen) (hbytes:(n+m)*bytes≤140737488355328) (hbase:base≤w.heap.size) :
    ∃v' w',(Builtin.append_ #[t,t] ty #[v,x]).run P w=.ok v' w'∧w'.ownsRow base e size v' (n+m) (xs++news)∧w.grownBy w' v.ownBlock∧(v'.ownBlock=v.ownBlock∨v'.ownBlock=some w.heap.size):=by
  obtain⟨hl,A,c,rfl,hmc,hcm,hA,hcs⟩:=hr
  cases A with
  | none=>
    obtain rfl:=hA rfl;obtain rfl:m=0:=by omega
    obtain rfl:news=[]:=bP (by simpa using hl);refine⟨v,w,?_,by simpa using hown,⟨rfl,rfl,rfl,au _,fun _ _ _=>rfl⟩,.inl rfl⟩;rcases hown.2 with ⟨rfl,rfl⟩|⟨g,cap,cur,rfl,_,_,hnc,_⟩
    ·simp[Builtin.append_,run_underlying ht,sizeOf,typeInfo,hi,Builtin.lenOf,Builtin.firstCells]
    ·simp[Builtin.append_,run_underlying ht,sizeOf,typeInfo,hi,Builtin.lenOf,Builtin.firstCells,hnc,storeCells]
  | some ad=>
    have hc:∀j u,news[j]? = some u→w.cell? (ad.add j)=some u:=by
      intro j u hu;rcases Nat.eq_zero_or_pos m with h0|h0
      ·subst h0;obtain rfl:news=[]:=bP (by simpa using hl);simp at hu
      ·obtain⟨g,o,ha,_,hc⟩:=hcs h0;injection ha with ha
       subst ha;rw[Addr.add_lit];exact hc j u hu
    obtain⟨v',w',hrun,h2,h3,_,h5⟩:=run_append_own_at (P:=P) w base t ty e i z size bytes ht hi hz hsize hby hzs hsz v n xs hown ad m c news hl hc h1 h63 hbytes hbase;exact⟨v',w',hrun,h2,h3,h5⟩
theorem pO {a:Act} (t:TypeId) (ho:o.op=.call {callee:=.builtin .append,args:=#[s,x],argTypes:=#[t,t]}) (base:Nat) (e:TypeId) (i:TypeInfo) (z:Value) (size bytes:Nat) (ht:P.underlying t=some (.slice e)) (hi:P.info? e=some i) (hz:i.zero=some z) (hsize:i.size=size) (hby:i.bytes=bytes) (hzs:z.cells.size=size) (hsz:0<size) (v:Value) (n:Nat) (xs:List Value) (hs:a.eval s=v) (hown:w.ownsRow base e size v n xs) (y:Value) (m B:Nat) (news:List Value) (hx:a.eval x=y) (hr:Rd w B size y m news) (h1:∀u∈news,u.oneCell'=true) (h63:n+m≤maxLen) (hbytes:(n+m)*bytes≤140737488355328) (hbase:base≤w.heap.size) (h:∀v' w',w'.ownsRow base e size v' (n+m) (xs++news)→w.grownBy w' v.ownBlock→(v'.ownBlock=v.ownBlock∨v'.ownBlock=some w.heap.size)→K (a.put o.dst v') w'):o.wp P a w K Q:=by
  obtain⟨v',w',hrun,h2,h3,h4⟩:=jM (P:=P) w base t o.type e i z size bytes ht hi hz hsize hby hzs hsz v n xs hown y m B news hr h1 h63 hbytes hbase;unfold Oper.wp execOp;simp only[ho,resolve,invoke,builtin,Sem.run_bind,Sem.run_pure,Result.andThen_ok,List.map_toArray,cz,List.map_nil,hs,hx,hrun];exact h v' w' h2 h3 h4
theorem eD {a:Act} (hgd:o.guard=none) (s x:Operand) (t:TypeId) (ho:o.op=.call {callee:=.builtin .append,args:=#[s,x],argTypes:=#[t,t]}) (base:Nat) (e:TypeId) (i:TypeInfo) (z:Value) (size bytes:Nat) (ht:P.underlying t=some (.slice e)) (hi:P.info? e=some i) (hz:i.zero=some z) (hsize:i.size=size) (hby:i.bytes=bytes) (hzs:z.cells.size=size) (hsz:0<size) (v:Value) (n:Nat) (xs:List Value) (hs:a.eval s=v) (hown:w.ownsRow base e size v n xs) (y:Value) (m B:Nat) (news:List Value) (hx:a.eval x=y) (hr:Rd w B size y m news) (h1:∀u∈news,u.oneCell'=true) (h63:n+m≤maxLen) (hbytes:(n+m)*bytes≤140737488355328) (hbase:base≤w.heap.size) (h:∀v' w',w'.ownsRow base e size v' (n+m) (xs++news)→w.grownBy w' v.ownBlock→(v'.ownBlock=v.ownBlock∨v'.ownBlock=some w.heap.size)→wpList P ops Q rest (a.put o.dst v') w'):wpList P ops Q (o::rest) a w:=
  wpList_plain hgd fun _ hK=>pO s x t ho base e i z size bytes ht hi hz hsize hby hzs hsz v n xs hs hown y m B news hx hr h1 h63 hbytes hbase fun v' w' h2 h3 h4=>hK _ _ (h v' w' h2 h3 h4)
theorem dV {a:Act} (hgd:o.guard=none) (s x:Operand) (t:TypeId) (ho:o.op=.call {callee:=.builtin .append,args:=#[s,x],argTypes:=#[t,t]}) (base:Nat) (e:TypeId) (i:TypeInfo) (z:Value) (size bytes:Nat) (ht:P.underlying t=some (.slice e)) (hi:P.info? e=some i) (hz:i.zero=some z) (hsize:i.size=size) (hby:i.bytes=bytes) (hzs:z.cells.size=size) (hsz:0<size) (v:Value) (n:Nat) (xs:List Value) (hs:a.eval s=v) (hown:w.ownsRow base e size v n xs) (y:Value) (m B:Nat) (news:List Value) (hx:a.eval x=y) (hr:Rd w B size y m news) (h1:∀u∈news,u.oneCell'=true) (h63:n+m≤maxLen) (hbytes:(n+m)*bytes≤140737488355328) (hbase:base≤w.heap.size) (h:∀v' w',w'.ownsRow base e size v' (n+m) (xs++news)→w.grownBy w' v.ownBlock→(v'.ownBlock=v.ownBlock∨v'.ownBlock=some w.heap.size)→K (a.put o.dst v') w') :
    if Region.wanted o (yielded ops a.tmps)=true then Oper.wp P o a w K Q else E:=by
  have hw:Region.wanted o (yielded ops a.tmps)=true:=by simp[Region.wanted,hgd]
  rw[aD hw];exact pO s x t ho base e i z size bytes ht hi hz hsize hby hzs hsz v n xs hs hown y m B news hx hr h1 h63 hbytes hbase h
theorem fQ (w:World) (cs:List Value) (t:TypeId) (sz m:Nat) (hl:cs.length=m*sz) (hm:m≤1000):Rd (w.alloc (.cells cs.toArray t)) (w.heap.size+1) sz (.slice (some ⟨w.heap.size,0,none⟩) m m) m cs:=by
  refine⟨hl,_,_,rfl,au _,by unfold maxLen;omega,by simp,fun _=>⟨w.heap.size,0,rfl,by omega,fun j u hj=>?_⟩⟩;rw[cM,Bk.cell (Bk.new w t cs.toArray)];simpa using hj
theorem ki {c:Code} {a:Act} (h:∀W,Below w.heap.size w W→Bk W w.heap.size t1 cs1→W.heap.size=w.heap.size+1→c.wp P Q a W):c.wp P Q a (w.alloc (.cells cs1 t1)):=
  h _ ((aC _ _).alloc (au _) _) (Bk.new _ _ _) (by simp)
theorem Dv {c:Code} {a:Act} (h:∀W,Below w.heap.size w W→Bk W w.heap.size t1 cs1→Bk W (w.heap.size+1) t2 cs2→W.heap.size=w.heap.size+2→c.wp P Q a W):c.wp P Q a ((w.alloc (.cells cs1 t1)).alloc (.cells cs2 t2)):=
  h _ (((aC _ _).alloc (au _) _).alloc (by simp) _) ((Bk.new _ _ _).alloc _) (by simpa using Bk.new (w.alloc (.cells cs1 t1)) t2 cs2) (by simp)
def Rt (w:World) (e:TypeId) (sz:Nat) (v:Value) (n:Nat) (xs:List Value):Prop:=
  xs.length=n*sz∧∃A c,v=.slice A n c∧n≤c∧c≤maxLen∧(A=none→c=0)∧(0<n→∃g o cur fr,A=some ⟨g,o,none⟩∧w.heap[g]? = some (.cells cur e fr)∧∀j u,xs[j]? = some u→w.cell? ⟨g,o+j,none⟩=some u)
theorem Rt.rd {e:TypeId} (h:Rt w e sz v n xs):Rd w w.heap.size sz v n xs:=by
  obtain⟨h1,A,c,h2,h3,h4,h5,h6⟩:=h;refine⟨h1,A,c,h2,h3,h4,h5,fun hn=>?_⟩;obtain⟨g,o,cur,fr,ha,hg,hc⟩:=h6 hn;exact⟨g,o,ha,(aM.1 hg).1,hc⟩
theorem Rt.next {e:TypeId} (h:Rt w e sz v n xs) (hb:Below w.heap.size w w'):Rt w' e sz v n xs:=by
  obtain⟨h1,A,c,h2,h3,h4,h5,h6⟩:=h;refine⟨h1,A,c,h2,h3,h4,h5,fun hn=>?_⟩;obtain⟨g,o,cur,fr,ha,hg,hc⟩:=h6 hn;have hl:=(aM.1 hg).1;exact⟨g,o,cur,fr,ha,(hb.block g hl).trans hg,fun j u hj=>(hb.cell (p:=⟨g,o+j,none⟩) hl).trans (hc j u hj)⟩
theorem Rt.keep {e:TypeId} (h:Rt w e sz v n xs) {row:Option Nat} (hg:w.grownBy w' row) (hr:∀k,row=some k→∃t cs fr,w.heap[k]? = some (.cells cs t fr)∧e≠t):Rt w' e sz v n xs:=by
  obtain⟨h1,A,c,h2,h3,h4,h5,h6⟩:=h;refine⟨h1,A,c,h2,h3,h4,h5,fun hn=>?_⟩;obtain⟨g,o,cur,fr,ha,hh,hc⟩:=h6 hn;have hl:=(aM.1 hh).1;have hne:some g≠row:=by
    intro he;obtain⟨t,cs,fr',hk,ht⟩:=hr g he.symm;rw[hh] at hk;injection hk with hk
    injection hk with _ hk
    exact ht hk
  exact⟨g,o,cur,fr,ha,(hg.block g hl hne).trans hh,fun j u hj=>hg.cell (a:=⟨g,o+j,none⟩) (hc j u hj) hne⟩
theorem Rt.of_own {e:TypeId} (h:w.ownsRow B e sz v n xs):Rt w e sz v n xs:=by
  refine⟨h.1,?_⟩;rcases h.2 with ⟨rfl,rfl⟩|⟨g,cap,cur,rfl,hg,hh,h1,h2,h3,h4⟩
  ·exact⟨none,0,rfl,by omega,by unfold maxLen;omega,fun _=>rfl,fun h=>by omega⟩
  ·refine⟨some ⟨g,0,none⟩,cap,rfl,h1,h2,by simp,fun _=>⟨g,0,cur,_,rfl,hh,fun j u hj=>?_⟩⟩;rw[cM];exact dW h j u hj
theorem Rt.nil (w:World) (e:TypeId) (sz:Nat):Rt w e sz (.slice none 0 0) 0 []:=
  ⟨by simp,none,0,rfl,by omega,by unfold maxLen;omega,fun _=>rfl,fun h=>by omega⟩
theorem Rt.take {e:TypeId} (h:Rt w e sz (.slice A n c) n xs) (hk:k≤n):Rt w e sz (.slice A k c) k (xs.take (k*sz)):=by
  obtain⟨h1,A',c',h2,h3,h4,h5,h6⟩:=h
  cases h2;refine⟨?_,A,c,rfl,by omega,h4,h5,fun hn=>?_⟩
  ·rw[cm,h1];exact de (dh _ hk)
  ·obtain⟨g,o,cur,fr,ha,hg,hc⟩:=h6 (by omega);refine⟨g,o,cur,fr,ha,hg,fun j u hj=>hc j u ?_⟩;rw[dj] at hj;split at hj
   ·exact hj
   ·cases hj
theorem Rt.le {e:TypeId} {m:Nat} (h:Rt w e sz (.slice A m c) n xs):m=n∧n≤c∧c≤maxLen:=by
  obtain⟨_,A',c',h2,h3,h4,_⟩:=h
  cases h2;exact⟨rfl,h3,h4⟩
theorem Rt.form {e:TypeId} (h:Rt w e sz v n xs):∃A c,v=.slice A n c:=by
  obtain⟨_,A,c,h2,_⟩:=h;exact⟨A,c,h2⟩
theorem Bk.row (h:Bk w g t cs) {e:TypeId} (he:e≠t):∀k,some g=some k→∃t cs fr,w.heap[k]? = some (.cells cs t fr)∧e≠t:=by
  intro k hk;injection hk with hk
  subst hk;exact⟨t,cs,_,h,he⟩
theorem jK (h:Below w.heap.size w W) (h1:Below W.heap.size W w1):Below w.heap.size w w1:=h.trans (h1.mono h.size)
theorem KO (hb:Below W.heap.size W w1):(∀b o,b<W.heap.size→w1.cell? ⟨b,o,none⟩=W.cell? ⟨b,o,none⟩)∧(∀b o,b<W.heap.size→w1.frozen? ⟨b,o,none⟩=W.frozen? ⟨b,o,none⟩):=
  ⟨fun b o h=>hb.cell (p:=⟨b,o,none⟩) h,fun b o h=>hb.frozen (p:=⟨b,o,none⟩) h⟩
theorem ef (h:w.grownBy w' (some c)) (i:Nat) (v:Value):w.grownBy (w'.setCell ⟨c,i,none⟩ v) (some c):=
  ⟨h.os,h.tape,h.output,by simpa [World.setCell] using h.size,fun k hk hne=>(bK _ _ _ _ (fun e=>hne (by rw[e]))).trans (h.block k hk hne)⟩
theorem fD (w:World) (row:Option Nat):w.grownBy w row:=⟨rfl,rfl,rfl,au _,fun _ _ _=>rfl⟩
theorem jq {e:Exit} {a:Act} (hb:Bk w c t #[u0,u1,u2]) (h:∀F,Bk F c t #[v0,v1,v2]→w.grownBy F (some c)→F.cell? ⟨c,0,none⟩=some v0→F.cell? ⟨c,1,none⟩=some v1→F.cell? ⟨c,2,none⟩=some v2→bodyPost P fn R e a F) :
    bodyPost P fn R e a (((w.setCell ⟨c,0,none⟩ v0).setCell ⟨c,1,none⟩ v1).setCell ⟨c,2,none⟩ v2):=by
  have hF:Bk (((w.setCell ⟨c,0,none⟩ v0).setCell ⟨c,1,none⟩ v1).setCell ⟨c,2,none⟩ v2) c t #[v0,v1,v2]:=by simpa using ((hb.set 0 v0).set 1 v1).set 2 v2
  exact h _ hF (ef (ef (ef (fD _ _) _ _) _ _) _ _) (by rw[hF.cell];rfl) (by rw[hF.cell];rfl) (by rw[hF.cell];rfl)
theorem Bk.three {x y z:Value} (h:Bk w g t #[x,y,z]):w.cell? ⟨g,0,none⟩=some x∧w.cell? ⟨g,1,none⟩=some y∧w.cell? ⟨g,2,none⟩=some z∧w.frozen? ⟨g,0,none⟩=false∧w.frozen? ⟨g,1,none⟩=false∧w.frozen? ⟨g,2,none⟩=false:=
  ⟨by rw[h.cell];rfl,by rw[h.cell];rfl,by rw[h.cell];rfl,h.frozen _,h.frozen _,h.frozen _⟩
theorem fH (w:World) (cs1 cs2:Array Value) (t1 t2:TypeId):Bk ((w.alloc (.cells cs1 t1)).alloc (.cells cs2 t2)) (w.heap.size+1) t2 cs2:=by
  simpa using Bk.new (w.alloc (.cells cs1 t1)) t2 cs2
theorem ml:∀(l:List Int),∀u∈l.map (Value.int .i64),u.oneCell'=true:=by
  intro l u hu;obtain⟨x,_,rfl⟩:=bX.1 hu;rfl
def fz (l:List UInt8):List Value:=l.map fun b=>.int .u8 (b.toNat:Int)
theorem pJ (b:UInt8):fz (l++[b])=fz l++[.int .u8 (b.toNat:Int)]:=by simp[fz]
theorem rB:∀u∈fz l,u.oneCell'=true:=by
  intro u hu;obtain⟨x,_,rfl⟩:=bX.1 hu;rfl
theorem Tryz.infoByte:(Tryz.prog.info? 5).map (fun i=>(i.zero,i.size,i.bytes))=some (some (.int .u8 0),1,1):=by kernel_rfl
theorem dR (h:W.ownsRow N e size v k xs):∃A n c,v=.slice A n c:=by
  rcases h.2 with ⟨rfl,_⟩|⟨g,cap,cur,rfl,_⟩
  ·exact⟨_,_,_,rfl⟩
  ·exact⟨_,_,_,rfl⟩
theorem ei (h:W.ownsRow N e size (.slice A n c) k xs):n=k:=by
  rcases h.2 with ⟨h0,h1⟩|⟨g,cap,cur,h0,_⟩
  ·cases h0;omega
  ·cases h0;rfl
def KT (T:List TypeId) (w w':World):Prop:=∀(k:Nat) (o:Obj),w.heap[k]? = some o→(∀(cs:Array Value) (t:TypeId) (fr:Nat×Nat),o=Obj.cells cs t fr→t∉T)→w'.heap[k]? = some o
theorem KT.refl (T:List TypeId) (w:World):KT T w w:=fun _ _ h _=>h
theorem KT.trans {c:World} (h:KT T a b) (h':KT T b c):KT T a c:=fun k o hk ho=>h' k o (h k o hk ho) ho
theorem KT.drewN (h:KT T a b) (n:Nat):KT T a (b.drewN n):=h
theorem KT.drew (h:KT T a b):KT T a b.drew:=h
theorem KT.of_below (h:Below w.heap.size w w'):KT T w w':=fun k o hk _=>(h.block k (aM.1 hk).1).trans hk
theorem KT.alloc (h:KT T a b) (o:Obj):KT T a (b.alloc o):=h.trans (KT.of_below (aY (aC _ _) (au _) o))
theorem KT.setCell (h:KT T a b) (hg:b.heap[g]? = some (.cells cs t fr)) (ht:t∈T) (i:Nat) (v:Value):KT T a (b.setCell ⟨g,i,none⟩ v):=by
  intro k o hk ho;have h1:=h k o hk ho;by_cases e:k=g
  ·subst e;rw[hg] at h1
   cases h1;exact absurd ht (ho _ _ _ rfl)
  ·exact(bK _ _ _ k e).trans h1
theorem KT.grown {c:World} (h:KT T a b) {row:Option Nat} (hg:b.grownBy c row) (hr:∀k,row=some k→∃(cs:Array Value) (t:TypeId) (fr:Nat×Nat),b.heap[k]? = some (.cells cs t fr)∧t∈T):KT T a c:=by
  intro k o hk ho;have h1:=h k o hk ho;refine(hg.block k (aM.1 h1).1 ?_).trans h1;intro e;obtain⟨cs,t,fr,h2,ht⟩:=hr k e.symm;rw[h1] at h2
  cases h2;exact ho _ _ _ rfl ht
theorem lO (h:w.ownsRow B e sz v n xs):∀k,v.ownBlock=some k→∃(cs:Array Value) (t:TypeId) (fr:Nat×Nat),w.heap[k]? = some (.cells cs t fr)∧t=e:=by
  intro k hk;rcases h.2 with ⟨rfl,_⟩|⟨g,cap,cur,rfl,_,hh,_⟩
  ·simp[Value.ownBlock] at hk
  ·have:g=k:=by simpa [Value.ownBlock] using hk
   subst this;exact⟨cur,e,_,hh,rfl⟩
theorem mi {m:Nat} (h:w.ownsRow B e sz (.slice (some ⟨g,0,none⟩) m c) n xs):w.heap[g]? = some (.cells ((w.heap[g]?.bind fun o=>match o with | .cells cs _ _=>some cs|_=>none).getD #[]) e (0,0)):=by
  rcases h.2 with ⟨h0,_⟩|⟨g',cap,cur,hv,_,hh,_⟩
  ·cases h0
  ·cases hv;rw[hh];rfl
theorem Bk.kt (h:Bk w g t cs) (hk:KT T w w') (ht:t∉T):Bk w' g t cs:=hk g _ h (by rintro _ _ _ ⟨⟩;exact ht)
theorem AP (h:w.ownsRow B e sz v n xs) (hk:KT T w w') (ht:e∉T):w'.ownsRow B e sz v n xs:=by
  refine⟨h.1,?_⟩;rcases h.2 with h2|⟨g,cap,cur,rfl,hg,hh,r⟩
  ·exact .inl h2
  ·exact .inr ⟨g,cap,cur,rfl,hg,hk g _ hh (by rintro _ _ _ ⟨⟩;exact ht),r⟩
section
open Go.RowKit Go.ChangeShapes Go.WideShapes Go.Deep
theorem uX {a:Addr} (h:w.cell? a=some v):a.block<w.heap.size:=by
  unfold World.cell? at h
  cases hb:w.heap[a.block]? with
  | none=>simp[hb] at h
  | some o=>exact(aM.1 hb).1
theorem ss {α:Type} {lay:α→List Value} {sz:Nat} (hl:∀x,(lay x).length=sz):∀(L:List α) (k:Nat) (x:α) (j:Nat) (u:Value),L[k]? = some x→(lay x)[j]? = some u→(L.flatMap lay)[k*sz+j]? = some u
  | [],k,x,j,u,h,_=>by simp at h
  | a::r,0,x,j,u,h,hu=>by
    simp at h;subst h;rw[List.flatMap_cons,aW (by have:=(ay.1 hu).1;omega)];simpa using hu
  | a::r,k+1,x,j,u,h,hu=>by
    rw[List.flatMap_cons,aX (by rw[hl,Nat.add_mul];omega),hl,show (k+1)*sz+j-sz=k*sz+j by rw[Nat.add_mul];omega];exact ss hl r k x j u (by simpa using h) hu
theorem iK {lay:α→List Value} (hl:∀x,(lay x).length=sz) {L:List α} (h:Rd w B sz (.slice A n c) n (L.flatMap lay)) {x:α} (hk:L[k]? = some x) (hn:n=L.length) :
    ∃g o,A=some ⟨g,o,none⟩∧g<B∧∀j u,(lay x)[j]? = some u→w.cell? ⟨g,o+k*sz+j,none⟩=some u:=by
  obtain⟨h1,A',c',h2,h3,h4,h5,h6⟩:=h
  cases h2;have hkl:=(ay.1 hk).1;obtain⟨g,o,ha,hg,hc⟩:=h6 (by omega);refine⟨g,o,ha,hg,fun j u hu=>?_⟩
  have:=hc (k*sz+j) _ (ss hl L k x j u hk hu)
  simpa [dE] using this
end
end Go.Proofs.YtcagfamdoaoimaaGreatDoor
