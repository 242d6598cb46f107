/- Package relex: head, begins, restart. -/
import Derived.Test.YtmclohkaiemnaaaGreatDoorFr10
import Derived.Test.YtmclohkaiemnaaaGreatDoorSa9
import Derived.Test.YtmclohkaiemnaaaGreatDoorEc9
import Derived.Test.YtmclohkaiemnaaaGreatDoorSm9
import Derived.BigQuiet
import Derived.Deep.DeepCutAuto
import Derived.Deep.CutBlock
import Derived.Laws.CopyOwn
set_option linter.unusedVariables false
set_option linter.unusedSimpArgs false
set_option maxRecDepth 100000
set_option maxHeartbeats 8000000
namespace Go.Proofs.YtmclohkaiemnaaaGreatDoor
open Go.RowKit
variable {k:Nat} {P:Program} (g bd ba:Nat) (s:Value) (l:List UInt8) (lv:Value) (X:Lx) (xs:List PV) (pv:Value) (ys:List PV) (A:Option Addr) (w:World) (q:PV) (r:List PV) (c:Nat)
theorem JN (aw:Int) (b:Bool) (xs:List PV) (a:Int) (i:Nat) (q:PV) (W:World) (hx:xs.length≤10000) (ha:0≤a∧a≤100000) (hD:Bk W g 87 #[s,lv,.int .i64 aw,pv,.bool b]) (hr:Rt W 94 7 lv xs.length (iB xs)) (hd:Bk W bd 62 #[.pointer (some ⟨g,0,none⟩)]) (hb:Bk W ba 3 #[.int .i64 a]) (hq:xs[i]? = some q) :
    Calls Tryz.prog 78 #[.int .i64 (i:Int),.pointer (some ⟨bd,0,none⟩),.pointer (some ⟨ba,0,none⟩)] W fun e w'=>e=.returned (.bool (decide (a-2<(q.t.to:Int))))∧∃k,w'=W.drewN k:=by
  obtain⟨A,c,rfl⟩:=hr.form;obtain⟨g',o,rfl,_,hc⟩:=fW (lay:=uq) kq hr.rd hq rfl;have y0:W.cell? ⟨bd,0,none⟩=some (.pointer (some ⟨g,0,none⟩)):=by rw[hd.cell];rfl
  have y1:W.cell? ⟨g,1,none⟩=some (.slice (some ⟨g',o,none⟩) xs.length c):=by rw[hD.cell];rfl
  have y2:W.cell? ⟨g',o+i*7+2,none⟩=some (.int .i64 (q.t.to:Int)):=hc 2 _ rfl;have y3:W.cell? ⟨ba,0,none⟩=some (.int .i64 a):=by rw[hb.cell];rfl
  have hi:i<xs.length:=(az.1 hq).1;have u1:(i:Int)<(xs.length:Int):=by omega
  have u2:(0:Int)≤(i:Int):=by omega
  have v1:IntKind.i64.wrap (a-2)=a-2:=aO _ (by omega);clear hD hr hd hb hq hc;go_enter Tryz.func78,Tryz.ntmps78;go_wp2;go_quiet (fail);all_goals go_wp2
  all_goals go_ret
  all_goals exact⟨by first|rfl|simp,_,rfl⟩
theorem Ml (lv pv:Value) (a:Nat) (w:World) (hD:qP w g l X xs lv pv) (hr:Rt w 94 7 lv xs.length (iB xs)) (hx:xs.length≤10000) (ha:a≤100000) (hmo:∀(i j:Nat) (p q:PV),i≤j→xs[i]? = some p→xs[j]? = some q→p.t.to≤q.t.to) :
    Calls Tryz.prog 54 #[.pointer (some ⟨g,0,none⟩),.int .i64 (a:Int)] w fun e w'=>∃k:Nat,e=.returned (.int .i64 (k:Int))∧k≤xs.length∧(∀(i:Nat) (q:PV),xs[i]? = some q→(q.t.to+2≤a↔i<k))∧Below w.heap.size w w':=by
  obtain⟨A,c,rfl⟩:=hr.form;obtain⟨n,hn⟩:∃n,n=xs.length:=⟨_,rfl⟩;have hg:=hD.bk.lt;have y1:w.cell? ⟨g,1,none⟩=some (.slice A n c):=by rw[hD.bk.cell,hn];rfl
  have HP:∀(m i:Nat),i<n→Calls Tryz.prog 78 (#[.int .i64 (i:Int)]++#[.pointer (some ⟨w.heap.size,0,none⟩),.pointer (some ⟨w.heap.size+1,0,none⟩)]) ((((w.alloc (.cells #[.pointer (some ⟨g,0,none⟩)] 62)).alloc (.cells #[.int .i64 (a:Int)] 3))).drewN m) fun e w'=>
      e=.returned (.bool (match xs[i]? with|some q=>decide ((a:Int)-2<(q.t.to:Int))|none=>true))∧∃q,w'=((((w.alloc (.cells #[.pointer (some ⟨g,0,none⟩)] 62)).alloc (.cells #[.int .i64 (a:Int)] 3))).drewN m).drewN q:=by
    intro m i hi;obtain⟨q,hq⟩:∃q,xs[i]? = some q:=⟨_,ax (by omega)⟩;have hb:Below w.heap.size w (((w.alloc (.cells #[.pointer (some ⟨g,0,none⟩)] 62)).alloc (.cells #[.int .i64 (a:Int)] 3)).drewN m):=dX (((ay _ w).alloc (au _) _).alloc (by simp) _) m;rw[hq];exact JN g w.heap.size (w.heap.size+1) _ _ _ _ _ xs (a:Int) i q _ hx (by omega) (hD.bk.below hb hg) (hr.next hb) (Bk.drewN ((Bk.new w _ _).alloc _) m) (Bk.drewN (fB w _ _ _ _) m) hq
  have HS:=xK 78 _ n _ _ (enters_of Tryz.func78 (by kernel_rfl) rfl) (by omega) HP (by
    intro i j hij hj;obtain⟨p,hp⟩:∃p,xs[i]? = some p:=⟨_,ax (by omega)⟩;obtain⟨q,hq⟩:∃q,xs[j]? = some q:=⟨_,ax (by omega)⟩
    have:=hmo i j p q hij hp hq
    simp only[hp,hq,bT];omega)
  have H:=ac (ae HS hn);clear HS HP hD hr hn hmo;go_enter Tryz.func54,Tryz.ntmps54;go_wp2_with (
    (go_at_call 77;refine H.out.1.mono ?_;rintro e w2 ⟨k,rfl,hk1,hk2,hk3,q,rfl⟩;have HK:=ac (ae hk1 (ae hk2 hk3));clear hk1 hk2 hk3))
  go_ret;obtain⟨hk1,hk2,hk3⟩:=HK.out;refine⟨k,rfl,by rw[←H.out.2];exact hk1,fun i p hp=>?_,dX (((ay _ w).alloc (au _) _).alloc (by simp) _) q⟩;have hi:i<n:=by rw[H.out.2];exact(az.1 hp).1
  rcases bC i k with h|h
  ·have:=hk2 i h
   simp only[hp,cM] at this;exact⟨fun _=>h,fun _=>by omega⟩
  ·have:=hk3 i h hi
   simp only[hp,bT] at this;exact⟨fun h2=>by omega,fun h2=>by omega⟩
theorem Dp (aw:Int) (b:Bool) (xs:List PV) (a:Int) (i:Nat) (q:PV) (W:World) (hx:xs.length≤10000) (hD:Bk W g 87 #[s,lv,.int .i64 aw,pv,.bool b]) (hr:Rt W 94 7 lv xs.length (iB xs)) (hd:Bk W bd 62 #[.pointer (some ⟨g,0,none⟩)]) (hb:Bk W ba 3 #[.int .i64 a]) (hq:xs[i]? = some q) :
    Calls Tryz.prog 79 #[.int .i64 (i:Int),.pointer (some ⟨bd,0,none⟩),.pointer (some ⟨ba,0,none⟩)] W fun e w'=>e=.returned (.bool (decide (a≤(q.t.fr:Int))))∧∃k,w'=W.drewN k:=by
  obtain⟨A,c,rfl⟩:=hr.form;obtain⟨g',o,rfl,_,hc⟩:=fW (lay:=uq) kq hr.rd hq rfl;have y0:W.cell? ⟨bd,0,none⟩=some (.pointer (some ⟨g,0,none⟩)):=by rw[hd.cell];rfl
  have y1:W.cell? ⟨g,1,none⟩=some (.slice (some ⟨g',o,none⟩) xs.length c):=by rw[hD.cell];rfl
  have y2:W.cell? ⟨g',o+i*7+1,none⟩=some (.int .i64 (q.t.fr:Int)):=hc 1 _ rfl;have y3:W.cell? ⟨ba,0,none⟩=some (.int .i64 a):=by rw[hb.cell];rfl
  have hi:i<xs.length:=(az.1 hq).1;have u1:(i:Int)<(xs.length:Int):=by omega
  have u2:(0:Int)≤(i:Int):=by omega
  clear hD hr hd hb hq hc;go_enter Tryz.func79,Tryz.ntmps79;go_wp2;go_quiet (fail);all_goals go_wp2
  all_goals go_ret
  all_goals exact⟨by first|rfl|simp,_,rfl⟩
theorem G9 (lv pv:Value) (a:Int) (w:World) (hD:qP w g l X xs lv pv) (hr:Rt w 94 7 lv xs.length (iB xs)) (hx:xs.length≤10000) (hmo:∀(i j:Nat) (p q:PV),i≤j→xs[i]? = some p→xs[j]? = some q→p.t.fr≤q.t.fr) :
    Calls Tryz.prog 57 #[.pointer (some ⟨g,0,none⟩),.int .i64 a] w fun e w'=>∃r:Int,e=.returned (.int .i64 r)∧((∃(k:Nat) (q:PV),r=(k:Int)∧xs[k]? = some q∧(q.t.fr:Int)=a)∨(r = -1∧∀(i:Nat) (q:PV),xs[i]? = some q→(q.t.fr:Int)≠a))∧Below w.heap.size w w':=by
  obtain⟨A,c,rfl⟩:=hr.form;obtain⟨n,hn⟩:∃n,n=xs.length:=⟨_,rfl⟩;have hg:=hD.bk.lt;have y1:w.cell? ⟨g,1,none⟩=some (.slice A n c):=by rw[hD.bk.cell,hn];rfl
  obtain⟨W,hW⟩:∃W,W=((w.alloc (.cells #[.pointer (some ⟨g,0,none⟩)] 62)).alloc (.cells #[.int .i64 a] 3)):=⟨_,rfl⟩;have hb0:Below w.heap.size w W:=by rw[hW];exact((ay _ w).alloc (au _) _).alloc (by simp) _
  have k1:Bk W w.heap.size 62 #[.pointer (some ⟨g,0,none⟩)]:=by rw[hW];exact(Bk.new w _ _).alloc _
  have k2:Bk W (w.heap.size+1) 3 #[.int .i64 a]:=by rw[hW];exact fB w _ _ _ _
  have HP:∀(m i:Nat),i<n→Calls Tryz.prog 79 (#[.int .i64 (i:Int)]++#[.pointer (some ⟨w.heap.size,0,none⟩),.pointer (some ⟨w.heap.size+1,0,none⟩)]) (W.drewN m) fun e w'=>
      e=.returned (.bool (match xs[i]? with|some q=>decide (a≤(q.t.fr:Int))|none=>true))∧∃q,w'=(W.drewN m).drewN q:=by
    intro m i hi;obtain⟨q,hq⟩:∃q,xs[i]? = some q:=⟨_,ax (by omega)⟩;have hb:Below w.heap.size w (W.drewN m):=dX hb0 m;rw[hq];exact Dp g w.heap.size (w.heap.size+1) _ _ _ _ _ xs a i q _ hx (hD.bk.below hb hg) (hr.next hb) (k1.drewN m) (k2.drewN m) hq
  have HS:=xK 79 _ n _ _ (enters_of Tryz.func79 (by kernel_rfl) rfl) (by omega) HP (by
    intro i j hij hj;obtain⟨p,hp⟩:∃p,xs[i]? = some p:=⟨_,ax (by omega)⟩;obtain⟨q,hq⟩:∃q,xs[j]? = some q:=⟨_,ax (by omega)⟩
    have:=hmo i j p q hij hp hq
    simp only[hp,hq,bT];omega)
  have hW':=hW;subst hW';have H:=ac (ae HS (ae hn (ae hD (ae hr (ae hmo hb0)))));clear HS HP hD hr hn hmo k1 k2 hb0 hW;go_enter Tryz.func57,Tryz.ntmps57;go_upto_region 1 with fail
  go_cut [5] (fun s wx=>∃k:Nat,s=.int .i64 (k:Int)∧k≤n∧(∀(i:Nat) (p:PV),xs[i]? = some p→(i<k↔¬a≤(p.t.fr:Int)))∧Below w.heap.size w wx∧Bk wx w.heap.size 62 #[.pointer (some ⟨g,0,none⟩)]∧Bk wx (w.heap.size+1) 3 #[.int .i64 a])
  case first=>
    go_wp2_with (
      (go_at_call 77;refine H.out.1.mono ?_;rintro e w2 ⟨k,rfl,hk1,hk2,hk3,q,rfl⟩;have HK:=ac (ae hk1 (ae hk2 hk3));clear hk1 hk2 hk3))
    go_meet;obtain⟨hk1,hk2,hk3⟩:=HK.out;refine⟨k,rfl,hk1,fun i p hp=>?_,dX H.out.2.2.2.2.2 q,Bk.drewN ((Bk.new w _ _).alloc _) q,Bk.drewN (fB w _ _ _ _) q⟩;have hi:i<n:=by rw[H.out.2.1];exact(az.1 hp).1
    rcases bC i k with h|h
    ·have:=hk2 i h
     simp only[hp,cM] at this;exact⟨fun _=>by omega,fun _=>h⟩
    ·have:=hk3 i h hi
     simp only[hp,bT] at this;exact⟨fun h2=>by omega,fun h2=>by omega⟩
  obtain⟨k,rfl,hk1,hk2,hb,k1,k2⟩:=hcut;obtain⟨_,hn,hD,hr,hmo,_⟩:=H.out;clear H;have y0:wc.cell? ⟨w.heap.size,0,none⟩=some (.pointer (some ⟨g,0,none⟩)):=by rw[k1.cell];rfl
  have y2:wc.cell? ⟨g,1,none⟩=some (.slice A n c):=by rw[(hD.bk.below hb hg).cell,hn];rfl
  have y3:wc.cell? ⟨w.heap.size+1,0,none⟩=some (.int .i64 a):=by rw[k2.cell];rfl
  by_cases hkn:k<n
  ·obtain⟨q,hq⟩:∃q,xs[k]? = some q:=⟨_,ax (by omega)⟩;obtain⟨ga,oa,rfl,_,hc⟩:=fW (lay:=uq) kq (hr.next hb).rd hq rfl;have y4:wc.cell? ⟨ga,oa+k*7+1,none⟩=some (.int .i64 (q.t.fr:Int)):=hc 1 _ rfl;have u1:decide (k<n)=true:=aG hkn;have u2:(k:Int)<(n:Int):=by omega
   have u3:(0:Int)≤(k:Int):=by omega
   have hge:a≤(q.t.fr:Int):=Int.not_lt.1 fun h=>Nat.lt_irrefl k ((hk2 k q hq).2 (by omega))
   have hfin:(q.t.fr:Int)≠a→∀(i:Nat) (r:PV),xs[i]? = some r→(r.t.fr:Int)≠a:=by
     intro hne i r hr2;rcases bC i k with h|h
     ·have:=(hk2 i r hr2).1 h;omega
     ·have:=hmo k i q r h hq hr2;omega
   have HF:=ac (ae hfin (ae hb hq));clear hfin hb hq hk2 hmo hr hD hc k1 k2 hn;by_cases he:(q.t.fr:Int)=a
   ·have u4:decide ((q.t.fr:Int)=a)=true:=aG he;go_wp2;go_quiet (fail);all_goals go_wp2
    all_goals go_ret
    all_goals exact⟨_,rfl,.inl ⟨k,q,rfl,HF.out.2.2,he⟩,dX HF.out.2.1 _⟩
   ·have u4:decide ((q.t.fr:Int)=a)=false:=aE he;go_wp2;go_quiet (fail);all_goals go_wp2
    all_goals go_ret
    all_goals exact⟨_,rfl,.inr ⟨rfl,HF.out.1 he⟩,dX HF.out.2.1 _⟩
  ·have u1:decide (k<n)=false:=aE hkn;have hfin:∀(i:Nat) (r:PV),xs[i]? = some r→(r.t.fr:Int)≠a:=by
     intro i r hr2
     have:=(hk2 i r hr2).1 (by have:=(az.1 hr2).1;omega)
     omega
   have HF:=ac (ae hfin hb);clear hfin hb hk2 hmo hr hD k1 k2 hn;go_wp2;go_quiet (fail);all_goals go_wp2
   all_goals go_ret
   all_goals exact⟨_,rfl,.inr ⟨rfl,HF.out.1⟩,dX HF.out.2 _⟩
theorem uz (dT sT ty elem:TypeId) (g n dCap sz:Nat) (a:Addr) (sCap:Nat) (cur:Array Value) (t:TypeId) (cs:List Value) (hu:P.underlying dT=some (.slice elem)) (hs:(P.info? elem).map (·.size)=some sz) (hg:w.heap[g]? = some (.cells cur t (0,0))) (hn:cs.length=n*sz) (hsrc:∀j v,cs[j]? = some v→w.cell? (a.add j)=some v) (hfit:cur.size=n*sz) (h1:∀v∈cs,v.oneCell'=true) :
    (Builtin.copy_ #[dT,sT] ty #[.slice (some ⟨g,0,none⟩) n dCap,.slice (some a) n sCap]).run P w=.ok (goInt n) (w.setRow g cs.toArray):=by
  have hl:=run_loadCells_list (P:=P) w a cs hsrc;have hst:=run_storeCells_at P g 0 t cs 0 cur w hg (by omega) h1;have e:(cur.toList.take (0+0)++cs++cur.toList.drop (0+0+cs.length)).toArray=cs.toArray:=by
    rw[hn,dD (by rw[Array.length_toList,hfit];omega)];simp
  rw[e] at hst
  cases hq:P.info? elem with
  | none=>simp[hq] at hs
  | some i=>
    have hi:i.size=sz:=by simpa [hq] using hs
    simp[Builtin.copy_,run_underlying hu,Builtin.lenOf,Builtin.firstCells,sizeOf,typeInfo,hq,hi,←hn,hl,hst]
def FA (b:Int) (q:PV):PV:=⟨⟨q.t.kd,((q.t.fr:Int)+b).toNat,((q.t.to:Int)+b).toNat,q.t.op⟩,q.X,q.v,q.Y,q.u⟩
theorem tu:iB (q::r)=uq q++iB r:=by simp[iB]
theorem kn:(iB ys).length=ys.length*7:=by induction ys with|nil=>rfl|cons q r ih=>rw[show q::r=[q]++r from rfl,lJ,aD,ih,aD];simp[iB];omega
theorem vV {ys:List PV} {q:PV} (h:ys[k]? = some q) (j:Nat) (hj:j<7):(iB ys)[k*7+j]? = (uq q)[j]? := by
  obtain⟨hk,rfl⟩:=az.1 h;have e:ys=ys.take k++(ys[k]::ys.drop (k+1)):=by rw[←cq hk,cE]
  have hl:(iB (ys.take k)).length=k*7:=by rw[kn,bz];omega
  rw[show iB ys=iB (ys.take k)++(uq ys[k]++iB (ys.drop (k+1))) by conv=>lhs;rw[e,lJ,tu]];rw[aP (by omega),hl,show k*7+j-k*7=j by omega,aU (by rw[kq];exact hj)]
theorem I4 {b:Int} {ys:List PV} {q:PV} (h:ys[k]? = some q) (h1:0≤(q.t.fr:Int)+b) (h2:0≤(q.t.to:Int)+b) :
    ((iB ((ys.take k).map (FA b)++ys.drop k)).set (k*7+1) (.int .i64 ((q.t.fr:Int)+b))).set (k*7+2) (.int .i64 ((q.t.to:Int)+b))=iB ((ys.take (k+1)).map (FA b)++ys.drop (k+1)):=by
  obtain⟨hk,rfl⟩:=az.1 h;have hl:(iB ((ys.take k).map (FA b))).length=k*7:=by rw[kn,bE,bz];omega
  rw[cq hk,lJ,dt _ _ (by omega),dt _ _ (by omega),hl,show k*7+1-k*7=1 by omega,show k*7+2-k*7=2 by omega,
    bS hk,bG,aW,lJ,tu,List.map_singleton,List.singleton_append,tu]
  congr 1;simp only[uq,FA,Int.toNat_of_nonneg h1,Int.toNat_of_nonneg h2];rfl
theorem JA (b:Int) (w:World) (h0:0<ys.length) (hl:ys.length≤10000) (hb : -10000≤b∧b≤10000) (hr:Rt w 94 7 (.slice A ys.length c) ys.length (iB ys)) (hq:∀q∈ys,0≤(q.t.fr:Int)+b∧0≤(q.t.to:Int)+b∧q.t.fr≤10000∧q.t.to≤10000∧∃A n c,q.v=.slice A n c) :
    Calls Tryz.prog 59 #[.slice A ys.length c,.int .i64 b] w fun e w'=>∃v,e=.returned v∧w'.ownsRow w.heap.size 94 7 v ys.length (iB (ys.map (FA b)))∧Below w.heap.size w w':=by
  obtain⟨i0,hi,hz0,hz1,hz2⟩:=cL Tryz.infoPlace;obtain⟨q0,hq0⟩:∃q,ys[0]? = some q:=⟨_,ax h0⟩;obtain⟨ga,oa,rfl,hga,hc⟩:=fW (lay:=uq) kq hr.rd hq0 rfl;obtain⟨w1,hmk,hown1,hg1⟩:=run_makeSlice_full (P:=Tryz.prog) w w.heap.size 82 94 i0 _ 7 Tryz.underlying82 hi hz0 hz1 .i64 .i64 ys.length (by omega) (by rw[hz2];omega) (by unfold maxLen;omega) (au _);have hb1:Below w.heap.size w w1:=(ay _ w).grown hg1 (au _) (fun k hk=>by cases hk);have hr1:=hr.next hb1;obtain⟨cur,hcur⟩:∃cur:Array Value,w1.heap[w.heap.size]? = some (.cells cur 94 (0,0))∧cur.size=ys.length*7:=by
    rcases hown1.2 with ⟨h,_⟩|⟨g,cap,cur,h,_,hh,h5,h6,h7,h8⟩
    ·simp at h
    ·simp only[Value.slice.injEq,dh,Addr.mk.injEq,and_true,true_and] at h;obtain⟨rfl,rfl⟩:=h;exact⟨cur,hh,h7⟩
  obtain⟨hcur,hcs⟩:=hcur;have hcp:=uz (P:=Tryz.prog) w1 82 82 3 94 w.heap.size ys.length ys.length 7 ⟨ga,oa,none⟩ c cur 94 (iB ys) Tryz.underlying82 (by rw[hi];simp[hz1]) hcur (kn ys) (by
    intro j v hj;have hjl:j<ys.length*7:=by have:=(az.1 hj).1;rwa [kn] at this
    obtain⟨q,hqk⟩:∃q,ys[j/7]? = some q:=⟨_,ax (by omega)⟩;obtain⟨g2,o2,he,_,hc2⟩:=fW (lay:=uq) kq hr1.rd hqk rfl;injection he with he
    injection he with he1 he2
    subst he1 he2;have h1:=vV hqk (j%7) (Nat.mod_lt _ (by omega));rw[show j/7*7+j%7=j by omega,hj] at h1
    have:=hc2 (j%7) v h1.symm
    rwa [show oa+j/7*7+j%7=oa+j by omega,←show (⟨ga,oa,none⟩:Addr).add j=⟨ga,oa+j,none⟩ by unfold Addr.add;split<;>simp_all] at this) hcs (by
    intro v hv;obtain⟨q,hq1,hq2⟩:=dL.1 hv;obtain⟨_,_,_,_,A',n',c',hqv⟩:=hq q hq1;simp only[uq,hqv,bj,dq,or_false] at hq2;rcases hq2 with rfl|rfl|rfl|rfl|rfl|rfl|rfl<;>rfl)
  have hown2:(w1.setRow w.heap.size (iB ys).toArray).ownsRow w.heap.size 94 7 (.slice (some ⟨w.heap.size,0,none⟩) ys.length ys.length) ys.length (iB ys):=
    ⟨kn ys,.inr ⟨w.heap.size,ys.length,(iB ys).toArray,rfl,au _,setRow_heap w1 w.heap.size cur _ _ _ hcur,au _,by unfold maxLen;omega,by rw[cJ,kn],by rw[bR (by simp[kn])]⟩⟩
  have hb2:Below w.heap.size w (w1.setRow w.heap.size (iB ys).toArray):=below_setRow hb1 (au _) _;generalize w1.setRow w.heap.size (iB ys).toArray=w2 at hcp hown2 hb2;have H:=ac (ae hown2 (ae hb2 hq));clear hown2 hb2 hq hown1 hg1 hb1 hr1 hcur hcs hr hc hq0;have hmap:∀k,k≤ys.length→((ys.take k).map (FA b)++ys.drop k).length=ys.length:=fun k hk=>by simp;omega
  have HM:=ac hmap;clear hmap;go_enter Tryz.func59,Tryz.ntmps59;go_wp2;go_loopw [15] (fun s15 wr=>∃k:Nat,k≤ys.length∧s15=.int .i64 (k:Int)∧wr.ownsRow w.heap.size 94 7 (.slice (some ⟨w.heap.size,0,none⟩) ys.length ys.length) ys.length (iB ((ys.take k).map (FA b)++ys.drop k))∧Below w.heap.size w wr) (fun s15 _=>ys.length-(intOf s15).toNat)
  case atStart=>exact⟨0,bq _,rfl,H.out.1,H.out.2.1⟩
  case round=>
    obtain⟨k,hk,rfl,hown,hbl⟩:=hrel;by_cases hlt:k<ys.length
    ·have u1:(k:Int)<(ys.length:Int):=by omega
     have u2:(0:Int)≤(k:Int):=by omega
     obtain⟨q,hqk⟩:∃q,ys[k]? = some q:=⟨_,ax hlt⟩;obtain⟨e1,e2,e3,e4,_⟩:=H.out.2.2 q (aI hqk);have hput:=I4 hqk e1 e2;have hg2:((ys.take k).map (FA b)++ys.drop k)[k]? = some q:=by
       rw[aP (by simp;omega)];simp[bv,hqk,cU hk]
     have y1:wr.cell? ⟨w.heap.size,k*7+1,none⟩=some (.int .i64 (q.t.fr:Int)):=eM hown _ _ (by rw[vV hg2 1 (by omega)];rfl);have y2:wr.cell? ⟨w.heap.size,k*7+2,none⟩=some (.int .i64 (q.t.to:Int)):=eM hown _ _ (by rw[vV hg2 2 (by omega)];rfl);have f1:=fZ hown (k*7+1);have f2:=fZ hown (k*7+2);have v1:IntKind.i64.wrap ((q.t.fr:Int)+b)=(q.t.fr:Int)+b:=aO _ (by omega);have v2:IntKind.i64.wrap ((q.t.to:Int)+b)=(q.t.to:Int)+b:=aO _ (by omega);have hs1:=hown.stored (k*7+1) (.int .i64 ((q.t.fr:Int)+b));have hs2:=hs1.1.stored (k*7+2) (.int .i64 ((q.t.to:Int)+b));rw[hput] at hs2;have HS:=ac (ae hs1.2 (ae hs2 hbl));clear hs1 hs2 hput hg2 hown hbl hqk;go_wp2;exact⟨⟨k+1,by omega,by go_num,HS.out.2.1.1,(HS.out.2.2.grown HS.out.1 HS.out.2.2.size (fun k hk=>by injection hk with hk;omega)).grown HS.out.2.1.2 (aA HS.out.2.2.size HS.out.1.size) (fun k hk=>by injection hk with hk;omega)⟩,by simp[intOf];omega⟩
    ·obtain rfl:k=ys.length:=by omega
     rw[dc,List.drop_length,bB] at hown;have HS:=ac (ae hown hbl);clear hown hbl;have u1:¬(ys.length:Int)<(ys.length:Int):=by omega
     go_wp2;go_ret;exact⟨_,rfl,HS.out.1,HS.out.2⟩
theorem sM {ys:List PV} (h:∀q∈ys,∃A n c,q.v=.slice A n c):∀u∈iB ys,u.oneCell'=true:=by
  intro v hv;obtain⟨q,hq1,hq2⟩:=dL.1 hv;obtain⟨A',n',c',hqv⟩:=h q hq1;simp only[uq,hqv,bj,dq,or_false] at hq2;rcases hq2 with rfl|rfl|rfl|rfl|rfl|rfl|rfl<;>rfl
theorem xS (k:Nat):(iB ys).take (k*7)=iB (ys.take k):=by
  have h1:iB ys=iB (ys.take k)++iB (ys.drop k):=by rw[←lJ,cE]
  by_cases hk:k≤ys.length
  ·rw[h1,List.take_left' (by rw[kn,bz];omega)]
  ·rw[bR (by rw[kn];omega),bR (by omega)]
theorem GV (w:World) (h:Rd w w.heap.size 7 (.slice A ys.length c) ys.length (iB ys)) (hl:ys.length≤10000) (hv:∀q∈ys,∃A n c,q.v=.slice A n c) :
    Calls Tryz.prog 56 #[.slice A ys.length c] w fun e w'=>∃v,e=.returned v∧w'.ownsRow w.heap.size 94 7 v ys.length (iB ys)∧Below w.heap.size w w':=by
  have hnil:=fun (W:World)=>Lib.run_eql_slice_nil (P:=Tryz.prog) W
  have hone:=sM hv;clear hv;obtain⟨n,hn⟩:∃n,n=ys.length:=⟨_,rfl⟩;rw[←hn] at h hl ⊢
  cases A with
  | none=>
    obtain⟨h1,A',c',h2,h3,h4,h5,h6⟩:=h
    cases h2;have hc:=h5 rfl;subst hc;obtain rfl:n=0:=by omega
    obtain rfl:ys=[]:=bN hn.symm;clear h1 h4 h5 h6 h3 hn hl;go_enter Tryz.func56,Tryz.ntmps56;go_wp2;go_ret;exact⟨_,rfl,⟨rfl,.inl ⟨rfl,rfl⟩⟩,ay _ _⟩
  | some A=>
    obtain⟨i0,hi,hz0,hz1,hz2⟩:=cL Tryz.infoPlace;have H:=ac (ae h hn);clear h hn;go_enter Tryz.func56,Tryz.ntmps56
    go_wp2_with (first
      | (at_builtin
         refine gE rfl (.tmp 5) (.tmp 6) 82 rfl w.heap.size 94 i0 _ 7 72 Tryz.underlying82 hi hz0 hz1 hz2 rfl (by decide) (.slice (some ⟨w.heap.size,0,none⟩) 0 0) 0 [] rfl (World.ownsRow_made _ _ _ (au _) (by unfold maxLen;omega) (by simp)) (.slice (some A) n c) n w.heap.size (iB ys) rfl (H.out.1.keep (by go_grown) (au _)) hone (by unfold maxLen;omega) (by omega) (by simp) ?_;intro v1 w1 hown1 hg1 hv1))
    go_ret;exact⟨v1,rfl,by simpa using hown1,((ay _ _).alloc (au _) _).grown hg1 (by simp) (by intro k hk;simp[Value.ownBlock] at hk;omega)⟩
theorem CG (lv pv:Value) (k:Nat) (w:World) (hD:qP w g l X xs lv pv) (hr:Rt w 94 7 lv xs.length (iB xs)) (hx:xs.length≤10000) (hl:l.length≤100000) (hk:k≤xs.length) :
    Calls Tryz.prog 55 #[.pointer (some ⟨g,0,none⟩),.int .i64 (k:Int)] w fun e w'=>∃(x:Nat) (Z:Lx) (v:Value),e=.returned (.tuple #[.int .i64 (x:Int),.agg #[.int .i64 Z.aw,v,.bool Z.bd]])∧Rt w 120 2 v Z.pd.length (fQ Z.pd) ∧
      ((∃q,xs[k]? = some q∧x=q.t.fr∧Z=q.X)∨(k=xs.length∧x=l.length∧Z=X))∧Below w.heap.size w w':=by
  obtain⟨A,c,rfl⟩:=hr.form;obtain⟨n,hn⟩:∃n,n=xs.length:=⟨_,rfl⟩;obtain⟨pA,pc,rfl⟩:=hD.pv.form;have hg:=hD.bk.lt;have a1:¬g=w.heap.size:=by omega
  have a2:¬w.heap.size=g:=by omega
  have y0:w.cell? ⟨g,0,none⟩=some (.string ⟨l.toArray⟩):=by rw[hD.bk.cell];rfl
  have y1:w.cell? ⟨g,1,none⟩=some (.slice A n c):=by rw[hD.bk.cell,hn];rfl
  have y2:w.cell? ⟨g,2,none⟩=some (.int .i64 X.aw):=by rw[hD.bk.cell];rfl
  have y3:w.cell? ⟨g,3,none⟩=some (.slice pA X.pd.length pc):=by rw[hD.bk.cell];rfl
  have y4:w.cell? ⟨g,4,none⟩=some (.bool X.bd):=by rw[hD.bk.cell];rfl
  by_cases hkn:k<n
  ·obtain⟨q,hq⟩:∃q,xs[k]? = some q:=⟨_,ax (by omega)⟩;obtain⟨ga,oa,rfl,hga,hc⟩:=fW (lay:=uq) kq hr.rd hq rfl;have hps:=hD.ps q (aI hq);obtain⟨qt,qX,qv,qY,qu⟩:=q;replace hps:Rt w 120 2 qv qX.pd.length (fQ qX.pd):=hps;obtain⟨qA,qc,rfl⟩:=hps.form;have b1:¬ga=w.heap.size:=by omega
   have b2:¬w.heap.size=ga:=by omega
   have z1:w.cell? ⟨ga,oa+k*7+1,none⟩=some (.int .i64 (qt.fr:Int)):=hc 1 _ rfl;have z2:w.cell? ⟨ga,oa+k*7+4,none⟩=some (.int .i64 qX.aw):=hc 4 _ rfl;have z3:w.cell? ⟨ga,oa+k*7+4+1,none⟩=some (.slice qA qX.pd.length qc):=hc 5 _ rfl;have z4:w.cell? ⟨ga,oa+k*7+4+2,none⟩=some (.bool qX.bd):=hc 6 _ rfl;have u2:(k:Int)<(n:Int):=by omega
   have u3:(0:Int)≤(k:Int):=by omega
   have HF:=ac (ae hps hq);clear hps hq hD hr hc hn y0 y2 y3 y4;go_enter Tryz.func55,Tryz.ntmps55;go_wp2;go_region;all_goals go_wp2
   all_goals refine bu (v:=.tuple #[.int .i64 (qt.fr:Int),.agg #[.int .i64 qX.aw,.slice qA qX.pd.length qc,.bool qX.bd]]) (by simp[results,Tryz.results55,go_sem]) rfl ?_
   all_goals exact⟨qt.fr,qX,_,rfl,HF.out.1,.inl ⟨_,HF.out.2,rfl,rfl⟩,((ay _ _).alloc (au _) _).drew⟩
  ·have u2:¬(k:Int)<(n:Int):=by omega
   have HF:=ac (ae hD.pv (show k=xs.length by omega));clear hD hr hn hk;go_enter Tryz.func55,Tryz.ntmps55;go_wp2;go_region;all_goals go_wp2
   all_goals refine bu (v:=.tuple #[.int .i64 (l.length:Int),.agg #[.int .i64 X.aw,.slice pA X.pd.length pc,.bool X.bd]]) (by simp[results,Tryz.results55,go_sem]) rfl ?_
   all_goals exact⟨l.length,X,_,rfl,HF.out.1,.inr ⟨HF.out.2,rfl,rfl⟩,((ay _ _).alloc (au _) _).drew⟩
end Go.Proofs.YtmclohkaiemnaaaGreatDoor
set_option linter.unusedVariables false
set_option linter.unusedSimpArgs false
set_option maxRecDepth 100000
set_option maxHeartbeats 8000000
namespace Go.Proofs.YtmclohkaiemnaaaGreatDoor
open Go.RowKit
def zq (xs:List PV):List Tk:=xs.map fun q=>q.t
theorem DU (g:Nat) (l:List UInt8) (X:Lx) (xs:List PV) (lv pv:Value) (w:World) (hD:qP w g l X xs lv pv) (hr:Rt w 94 7 lv xs.length (iB xs)) (hx:xs.length≤10000) :
    Calls Tryz.prog 50 #[.pointer (some ⟨g,0,none⟩)] w fun e w'=>∃v,e=.returned v∧w'.ownsRow w.heap.size 92 4 v xs.length (nh (zq xs))∧Below w.heap.size w w':=by
  obtain⟨i0,hi,hz0,hz1,hz2⟩:=cL Tryz.infoToken;obtain⟨A,c,rfl⟩:=hr.form;obtain⟨n,hn⟩:∃n,n=xs.length:=⟨_,rfl⟩;have hg:=hD.bk.lt;have y1:w.cell? ⟨g,1,none⟩=some (.slice A n c):=by rw[hD.bk.cell,hn];rfl
  obtain⟨w1,hmk,hown1,hg1⟩:=run_make_own (P:=Tryz.prog) w w.heap.size 96 92 i0 _ 4 Tryz.underlying96 hi hz0 hz1 .i64 .i64 n (by rw[hz2];omega) (by unfold maxLen;omega) (au _);have hb1:Below w.heap.size w w1:=(ay _ w).grown hg1 (au _) (fun k hk=>by cases hk);have y2:w1.cell? ⟨g,1,none⟩=some (.slice A n c):=by rw[(hD.bk.below hb1 hg).cell,hn];rfl
  have hps:∀q∈xs,∃A n c,q.v=.slice A n c:=fun q hq=>by obtain⟨A,c,h⟩:=(hD.ps q hq).form;exact⟨A,_,c,h⟩
  have H:=ac (ae hown1 (ae hb1 (ae hr (ae hn hps))));rw[←hn] at hx ⊢;clear hown1 hb1 hr hn hD hg1 hps;go_enter Tryz.func50,Tryz.ntmps50;go_wp2;go_loopw [3,17] (fun o i wr=>∃k:Nat,k≤n∧i=.int .i64 (k:Int)∧wr.ownsRow w.heap.size 92 4 o k (nh (zq (xs.take k)))∧Below w.heap.size w wr) (fun o i _=>n-(intOf i).toNat)
  case atStart=>exact⟨0,bq _,rfl,H.out.1,H.out.2.1⟩
  case round=>
    obtain⟨k,hk,rfl,hown,hb⟩:=hrel;obtain⟨A2,n2,c2,rfl⟩:=eA hown;obtain rfl:k=n2:=(ff hown).symm;by_cases hlt:k<n
    ·have u1:(k:Int)<(n:Int):=by omega
     have u2:(0:Int)≤(k:Int):=by omega
     obtain⟨q,hq⟩:∃q,xs[k]? = some q:=⟨_,ax (by rw[←H.out.2.2.2.1];exact hlt)⟩;obtain⟨ga,oa,rfl,hga,hc⟩:=fW (lay:=uq) kq (H.out.2.2.1.next hb).rd hq rfl;obtain⟨qA,qn,qc,hqv⟩:=H.out.2.2.2.2 q (aI hq);obtain⟨⟨kd,fr,tt,op⟩,⟨xa,P,xb⟩,qv,qY,qu⟩:=q;replace hqv:qv=.slice qA qn qc:=hqv;subst hqv;have z0:wr.cell? ⟨ga,oa+k*7,none⟩=some (.int .i64 (kd:Int)):=hc 0 _ rfl;have z1:wr.cell? ⟨ga,oa+k*7+1,none⟩=some (.int .i64 (fr:Int)):=hc 1 _ rfl;have z2:wr.cell? ⟨ga,oa+k*7+2,none⟩=some (.int .i64 (tt:Int)):=hc 2 _ rfl;have z3:wr.cell? ⟨ga,oa+k*7+3,none⟩=some (.bool op):=hc 3 _ rfl;have z4:wr.cell? ⟨ga,oa+k*7+4,none⟩=some (.int .i64 xa):=hc 4 _ rfl;have z5:wr.cell? ⟨ga,oa+k*7+5,none⟩=some (.slice qA qn qc):=hc 5 _ rfl;have z6:wr.cell? ⟨ga,oa+k*7+6,none⟩=some (.bool xb):=hc 6 _ rfl;have htk:nh (zq (xs.take (k+1)))=nh (zq (xs.take k))++nh [⟨kd,fr,tt,op⟩]:=by
       obtain⟨h1,h2⟩:=az.1 hq;rw[←DX,bS h1,h2];simp[zq]
     have HP:=ac (ae hown (ae hb htk));clear hown hb htk hq hc;go_wp2_with (
       (at_builtin
        refine gE rfl (.tmp 21) (.tmp 24) 96 rfl w.heap.size 92 i0 _ 4 32 Tryz.underlying96 hi hz0 hz1 hz2 rfl (by decide) (.slice A2 k c2) k (nh (zq (xs.take k))) rfl ((HP.out.1.alloc _).alloc _) (.slice (some ⟨wr.heap.size+1,0,none⟩) 1 1) 1 (wr.heap.size+1+1) (nh [⟨kd,fr,tt,op⟩]) rfl (by have hr:=iK (wr.alloc (.cells #[.int .i64 (kd:Int),.int .i64 (fr:Int),.int .i64 (tt:Int),.bool op,.int .i64 xa,.slice qA qn qc,.bool xb] 94)) (nh [⟨kd,fr,tt,op⟩]) 92 4 1 rfl (by omega);rw[show (wr.alloc (.cells #[.int .i64 (kd:Int),.int .i64 (fr:Int),.int .i64 (tt:Int),.bool op,.int .i64 xa,.slice qA qn qc,.bool xb] 94)).heap.size=wr.heap.size+1 by simp] at hr;exact hr) (LY _) (by unfold maxLen;omega) (by omega) (by have:=HP.out.2.1.size;simp;omega) ?_;intro v3 w3 hown3 hg3 hv3;have hne:∀k',(Value.slice A2 k c2).ownBlock=some k'→w.heap.size≤k'∧k'<wr.heap.size:=fun k' hk=>HP.out.1.lt k' hk
        have hb3:Below w.heap.size w w3:=dV ((HP.out.2.1.alloc HP.out.2.1.size _).alloc (by have:=HP.out.2.1.size;simp;omega) _) hg3 (by have:=HP.out.2.1.size;simp;omega) (fun k' hk=>(hne k' hk).1);have H3:=ac (ae hown3 hb3);clear hown3 hg3 hv3 hb3 hne))
     refine⟨⟨k+1,by omega,by go_num,?_,H3.out.2⟩,by simp[intOf];omega⟩;rw[HP.out.2.2];exact H3.out.1
    ·obtain rfl:k=n:=by omega
     have u1:¬(k:Int)<(k:Int):=by omega
     rw[bR (by rw[H.out.2.2.2.1];exact au _)] at hown;have HP:=ac (ae hown hb);clear hown hb;go_wp2;go_ret;exact⟨_,rfl,HP.out.1,HP.out.2⟩
theorem qP.below {w w':World} {g:Nat} {l:List UInt8} {X:Lx} {xs:List PV} {lv pv:Value} (h:qP w g l X xs lv pv) (hb:Below w.heap.size w w'):qP w' g l X xs lv pv:=
  ⟨h.bk.below hb h.bk.lt,fun q hq=>(h.ps q hq).next hb,h.pv.next hb⟩
theorem Az (g:Nat) (l:List UInt8) (X:Lx) (xs:List PV) (lv pv:Value) (w:World) (hD:qP w g l X xs lv pv) (hr:Rt w 94 7 lv xs.length (iB xs)) (hx:xs.length≤10000) (hl:l.length≤100000) :
    Calls Tryz.prog 31 #[.pointer (some ⟨g,0,none⟩)] w fun e w'=>∃v,e=.returned v∧w'.ownsRow w.heap.size 42 4 v (im l ((zq xs).map tz)).length (gv (im l ((zq xs).map tz)))∧Below w.heap.size w w':=by
  have hg:=hD.bk.lt;have y0:w.cell? ⟨g,0,none⟩=some (.string ⟨l.toArray⟩):=by rw[hD.bk.cell];rfl
  have hT:∀W,Below w.heap.size w W→Calls Tryz.prog 50 #[.pointer (some ⟨g,0,none⟩)] W fun e w'=>∃v,e=.returned v∧w'.ownsRow W.heap.size 92 4 v xs.length (nh (zq xs))∧Below W.heap.size W w':=fun W hW=>DU g l X xs lv pv W (hD.below hW) (hr.next hW) hx
  have hlen:((zq xs).map tz).length=xs.length:=by simp[zq]
  obtain⟨n,hn⟩:∃n,n=xs.length:=⟨_,rfl⟩;obtain⟨Z,hZ⟩:∃Z,Z=(zq xs).map tz:=⟨_,rfl⟩;have htk:nh (zq xs)=Z.flatMap Oc:=by rw[hZ];exact Ir _
  rw[htk] at hT;rw[←hZ] at hlen ⊢;rw[←hn] at hT hlen hx;clear hZ htk hn;subst hlen;have H:=ac (ae hT hD);clear hT hD hr;obtain⟨w0,rfl⟩:∃w0:World,w0=w:=⟨_,rfl⟩;go_enter Tryz.func31,Tryz.ntmps31;go_wp2
  go_region_with (first
    | (go_at_call 50;refine(H.out.1 _ (ay _ _).drew).mono ?_;rintro e w2 ⟨v2,rfl,ho,hb2⟩;obtain⟨A2,n2,c2,rfl⟩:=eA ho;obtain rfl:=ff ho;have z0:w2.cell? ⟨g,0,none⟩=some (.string ⟨l.toArray⟩):=by rw[((Bk.drew H.out.2.bk).below hb2 hg).cell];rfl
       have H2:=ac (ae ho hb2);clear ho hb2)
    | (go_at_call 49;refine(FM l Z A2 c2 w2 hl (by omega) (Rd.of_own H2.out.1)).mono ?_;rintro e w3 ⟨v3,rfl,ho3,hb3⟩;have H3:=ac (ae ho3 hb3);clear ho3 hb3))
  all_goals go_wp2
  all_goals go_ret
  all_goals exact⟨_,rfl,iW H3.out.1 H2.out.2.size,((ay _ _).drew.trans H2.out.2).trans (H3.out.2.mono H2.out.2.size)⟩
end Go.Proofs.YtmclohkaiemnaaaGreatDoor
