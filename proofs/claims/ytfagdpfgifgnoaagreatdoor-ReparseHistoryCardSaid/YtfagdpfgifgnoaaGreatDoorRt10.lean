/- Package relex: head, begins, restart. -/
import Derived.Test.YtfagdpfgifgnoaaGreatDoorFr10
import Derived.Test.YtfagdpfgifgnoaaGreatDoorSa9
import Derived.Test.YtfagdpfgifgnoaaGreatDoorEc9
import Derived.BigQuiet
import Derived.Deep.DeepCutAuto
import Derived.Deep.CutBlock
import Derived.Laws.CopyOwn
set_option linter.unusedVariables false
set_option linter.unusedSimpArgs false
set_option maxRecDepth 100000
set_option maxHeartbeats 8000000
namespace Go.Proofs.YtfagdpfgifgnoaaGreatDoor
open Go.RowKit
variable {k:Nat} {P:Program} (g bd ba:Nat) (s:Value) (l:List UInt8) (lv:Value) (X:Lx) (xs:List PV) (pv:Value) (ys:List PV) (A:Option Addr) (w:World) (q:PV) (r:List PV) (c:Nat)
theorem Cc (aw:Int) (b:Bool) (xs:List PV) (a:Int) (i:Nat) (q:PV) (W:World) (hx:xs.length≤10000) (ha:0≤a∧a≤100000) (hD:Bk W g 90 #[s,lv,.int .i64 aw,pv,.bool b]) (hr:Rt W 96 7 lv xs.length (dy xs)) (hd:Bk W bd 43 #[.pointer (some ⟨g,0,none⟩)]) (hb:Bk W ba 3 #[.int .i64 a]) (hq:xs[i]? = some q) :
    Calls Tryz.prog 92 #[.int .i64 (i:Int),.pointer (some ⟨bd,0,none⟩),.pointer (some ⟨ba,0,none⟩)] W fun e w'=>e=.returned (.bool (decide (a-2<(q.t.to:Int))))∧∃k,w'=W.drewN k:=by
  obtain⟨A,c,rfl⟩:=hr.form;obtain⟨g',o,rfl,_,hc⟩:=bS (lay:=nX) fw hr.rd hq rfl;have y0:W.cell? ⟨bd,0,none⟩=some (.pointer (some ⟨g,0,none⟩)):=by rw[hd.cell];rfl
  have y1:W.cell? ⟨g,1,none⟩=some (.slice (some ⟨g',o,none⟩) xs.length c):=by rw[hD.cell];rfl
  have y2:W.cell? ⟨g',o+i*7+2,none⟩=some (.int .i64 (q.t.to:Int)):=hc 2 _ rfl;have y3:W.cell? ⟨ba,0,none⟩=some (.int .i64 a):=by rw[hb.cell];rfl
  have hi:i<xs.length:=(List.getElem?_eq_some_iff.1 hq).1;have u1:(i:Int)<(xs.length:Int):=by omega
  have u2:(0:Int)≤(i:Int):=by omega
  have v1:IntKind.i64.wrap (a-2)=a-2:=IntWalk.i64_in _ (by omega);clear hD hr hd hb hq hc;go_enter Tryz.func92,Tryz.ntmps92;go_wp2;go_quiet (fail);all_goals go_wp2
  all_goals go_ret
  all_goals exact⟨by first|rfl|simp,_,rfl⟩
theorem Ea (lv pv:Value) (a:Nat) (w:World) (hD:jF w g l X xs lv pv) (hr:Rt w 96 7 lv xs.length (dy xs)) (hx:xs.length≤10000) (ha:a≤100000) (hmo:∀(i j:Nat) (p q:PV),i≤j→xs[i]? = some p→xs[j]? = some q→p.t.to≤q.t.to) :
    Calls Tryz.prog 67 #[.pointer (some ⟨g,0,none⟩),.int .i64 (a:Int)] w fun e w'=>∃k:Nat,e=.returned (.int .i64 (k:Int))∧k≤xs.length∧(∀(i:Nat) (q:PV),xs[i]? = some q→(q.t.to+2≤a↔i<k))∧Below w.heap.size w w':=by
  obtain⟨A,c,rfl⟩:=hr.form;obtain⟨n,hn⟩:∃n,n=xs.length:=⟨_,rfl⟩;have hg:=hD.bk.lt;have y1:w.cell? ⟨g,1,none⟩=some (.slice A n c):=by rw[hD.bk.cell,hn];rfl
  have HP:∀(m i:Nat),i<n→Calls Tryz.prog 92 (#[.int .i64 (i:Int)]++#[.pointer (some ⟨w.heap.size,0,none⟩),.pointer (some ⟨w.heap.size+1,0,none⟩)]) ((((w.alloc (.cells #[.pointer (some ⟨g,0,none⟩)] 43)).alloc (.cells #[.int .i64 (a:Int)] 3))).drewN m) fun e w'=>
      e=.returned (.bool (match xs[i]? with|some q=>decide ((a:Int)-2<(q.t.to:Int))|none=>true))∧∃q,w'=((((w.alloc (.cells #[.pointer (some ⟨g,0,none⟩)] 43)).alloc (.cells #[.int .i64 (a:Int)] 3))).drewN m).drewN q:=by
    intro m i hi;obtain⟨q,hq⟩:∃q,xs[i]? = some q:=⟨_,List.getElem?_eq_getElem (by omega)⟩;have hb:Below w.heap.size w (((w.alloc (.cells #[.pointer (some ⟨g,0,none⟩)] 43)).alloc (.cells #[.int .i64 (a:Int)] 3)).drewN m):=ae (((Below.refl _ w).alloc (Nat.le_refl _) _).alloc (by simp) _) m;rw[hq];exact Cc g w.heap.size (w.heap.size+1) _ _ _ _ _ xs (a:Int) i q _ hx (by omega) (hD.bk.below hb hg) (hr.next hb) (Bk.drewN ((Bk.new w _ _).alloc _) m) (Bk.drewN (aW w _ _ _ _) m) hq
  have HS:=qS 92 _ n _ _ (enters_of Tryz.func92 (by kernel_rfl) rfl) (by omega) HP (by
    intro i j hij hj;obtain⟨p,hp⟩:∃p,xs[i]? = some p:=⟨_,List.getElem?_eq_getElem (by omega)⟩;obtain⟨q,hq⟩:∃q,xs[j]? = some q:=⟨_,List.getElem?_eq_getElem (by omega)⟩
    have:=hmo i j p q hij hp hq
    simp only[hp,hq,decide_eq_true_eq];omega)
  have H:=Lib.hid (And.intro HS hn);clear HS HP hD hr hn hmo;go_enter Tryz.func67,Tryz.ntmps67;go_wp2_with (
    (go_at_call 91;refine H.out.1.mono ?_;rintro e w2 ⟨k,rfl,hk1,hk2,hk3,q,rfl⟩;have HK:=Lib.hid (And.intro hk1 (And.intro hk2 hk3));clear hk1 hk2 hk3))
  go_ret;obtain⟨hk1,hk2,hk3⟩:=HK.out;refine⟨k,rfl,by rw[←H.out.2];exact hk1,fun i p hp=>?_,ae (((Below.refl _ w).alloc (Nat.le_refl _) _).alloc (by simp) _) q⟩;have hi:i<n:=by rw[H.out.2];exact(List.getElem?_eq_some_iff.1 hp).1
  rcases Nat.lt_or_ge i k with h|h
  ·have:=hk2 i h
   simp only[hp,decide_eq_false_iff_not] at this;exact⟨fun _=>h,fun _=>by omega⟩
  ·have:=hk3 i h hi
   simp only[hp,decide_eq_true_eq] at this;exact⟨fun h2=>by omega,fun h2=>by omega⟩
theorem wl (aw:Int) (b:Bool) (xs:List PV) (a:Int) (i:Nat) (q:PV) (W:World) (hx:xs.length≤10000) (hD:Bk W g 90 #[s,lv,.int .i64 aw,pv,.bool b]) (hr:Rt W 96 7 lv xs.length (dy xs)) (hd:Bk W bd 43 #[.pointer (some ⟨g,0,none⟩)]) (hb:Bk W ba 3 #[.int .i64 a]) (hq:xs[i]? = some q) :
    Calls Tryz.prog 93 #[.int .i64 (i:Int),.pointer (some ⟨bd,0,none⟩),.pointer (some ⟨ba,0,none⟩)] W fun e w'=>e=.returned (.bool (decide (a≤(q.t.fr:Int))))∧∃k,w'=W.drewN k:=by
  obtain⟨A,c,rfl⟩:=hr.form;obtain⟨g',o,rfl,_,hc⟩:=bS (lay:=nX) fw hr.rd hq rfl;have y0:W.cell? ⟨bd,0,none⟩=some (.pointer (some ⟨g,0,none⟩)):=by rw[hd.cell];rfl
  have y1:W.cell? ⟨g,1,none⟩=some (.slice (some ⟨g',o,none⟩) xs.length c):=by rw[hD.cell];rfl
  have y2:W.cell? ⟨g',o+i*7+1,none⟩=some (.int .i64 (q.t.fr:Int)):=hc 1 _ rfl;have y3:W.cell? ⟨ba,0,none⟩=some (.int .i64 a):=by rw[hb.cell];rfl
  have hi:i<xs.length:=(List.getElem?_eq_some_iff.1 hq).1;have u1:(i:Int)<(xs.length:Int):=by omega
  have u2:(0:Int)≤(i:Int):=by omega
  clear hD hr hd hb hq hc;go_enter Tryz.func93,Tryz.ntmps93;go_wp2;go_quiet (fail);all_goals go_wp2
  all_goals go_ret
  all_goals exact⟨by first|rfl|simp,_,rfl⟩
theorem zV (lv pv:Value) (a:Int) (w:World) (hD:jF w g l X xs lv pv) (hr:Rt w 96 7 lv xs.length (dy xs)) (hx:xs.length≤10000) (hmo:∀(i j:Nat) (p q:PV),i≤j→xs[i]? = some p→xs[j]? = some q→p.t.fr≤q.t.fr) :
    Calls Tryz.prog 70 #[.pointer (some ⟨g,0,none⟩),.int .i64 a] w fun e w'=>∃r:Int,e=.returned (.int .i64 r)∧((∃(k:Nat) (q:PV),r=(k:Int)∧xs[k]? = some q∧(q.t.fr:Int)=a)∨(r = -1∧∀(i:Nat) (q:PV),xs[i]? = some q→(q.t.fr:Int)≠a))∧Below w.heap.size w w':=by
  obtain⟨A,c,rfl⟩:=hr.form;obtain⟨n,hn⟩:∃n,n=xs.length:=⟨_,rfl⟩;have hg:=hD.bk.lt;have y1:w.cell? ⟨g,1,none⟩=some (.slice A n c):=by rw[hD.bk.cell,hn];rfl
  obtain⟨W,hW⟩:∃W,W=((w.alloc (.cells #[.pointer (some ⟨g,0,none⟩)] 43)).alloc (.cells #[.int .i64 a] 3)):=⟨_,rfl⟩;have hb0:Below w.heap.size w W:=by rw[hW];exact((Below.refl _ w).alloc (Nat.le_refl _) _).alloc (by simp) _
  have k1:Bk W w.heap.size 43 #[.pointer (some ⟨g,0,none⟩)]:=by rw[hW];exact(Bk.new w _ _).alloc _
  have k2:Bk W (w.heap.size+1) 3 #[.int .i64 a]:=by rw[hW];exact aW w _ _ _ _
  have HP:∀(m i:Nat),i<n→Calls Tryz.prog 93 (#[.int .i64 (i:Int)]++#[.pointer (some ⟨w.heap.size,0,none⟩),.pointer (some ⟨w.heap.size+1,0,none⟩)]) (W.drewN m) fun e w'=>
      e=.returned (.bool (match xs[i]? with|some q=>decide (a≤(q.t.fr:Int))|none=>true))∧∃q,w'=(W.drewN m).drewN q:=by
    intro m i hi;obtain⟨q,hq⟩:∃q,xs[i]? = some q:=⟨_,List.getElem?_eq_getElem (by omega)⟩;have hb:Below w.heap.size w (W.drewN m):=ae hb0 m;rw[hq];exact wl g w.heap.size (w.heap.size+1) _ _ _ _ _ xs a i q _ hx (hD.bk.below hb hg) (hr.next hb) (k1.drewN m) (k2.drewN m) hq
  have HS:=qS 93 _ n _ _ (enters_of Tryz.func93 (by kernel_rfl) rfl) (by omega) HP (by
    intro i j hij hj;obtain⟨p,hp⟩:∃p,xs[i]? = some p:=⟨_,List.getElem?_eq_getElem (by omega)⟩;obtain⟨q,hq⟩:∃q,xs[j]? = some q:=⟨_,List.getElem?_eq_getElem (by omega)⟩
    have:=hmo i j p q hij hp hq
    simp only[hp,hq,decide_eq_true_eq];omega)
  have hW':=hW;subst hW';have H:=Lib.hid (And.intro HS (And.intro hn (And.intro hD (And.intro hr (And.intro hmo hb0)))));clear HS HP hD hr hn hmo k1 k2 hb0 hW;go_enter Tryz.func70,Tryz.ntmps70;go_upto_region 1 with fail
  go_cut [5] (fun s wx=>∃k:Nat,s=.int .i64 (k:Int)∧k≤n∧(∀(i:Nat) (p:PV),xs[i]? = some p→(i<k↔¬a≤(p.t.fr:Int)))∧Below w.heap.size w wx∧Bk wx w.heap.size 43 #[.pointer (some ⟨g,0,none⟩)]∧Bk wx (w.heap.size+1) 3 #[.int .i64 a])
  case first=>
    go_wp2_with (
      (go_at_call 91;refine H.out.1.mono ?_;rintro e w2 ⟨k,rfl,hk1,hk2,hk3,q,rfl⟩;have HK:=Lib.hid (And.intro hk1 (And.intro hk2 hk3));clear hk1 hk2 hk3))
    go_meet;obtain⟨hk1,hk2,hk3⟩:=HK.out;refine⟨k,rfl,hk1,fun i p hp=>?_,ae H.out.2.2.2.2.2 q,Bk.drewN ((Bk.new w _ _).alloc _) q,Bk.drewN (aW w _ _ _ _) q⟩;have hi:i<n:=by rw[H.out.2.1];exact(List.getElem?_eq_some_iff.1 hp).1
    rcases Nat.lt_or_ge i k with h|h
    ·have:=hk2 i h
     simp only[hp,decide_eq_false_iff_not] at this;exact⟨fun _=>by omega,fun _=>h⟩
    ·have:=hk3 i h hi
     simp only[hp,decide_eq_true_eq] at this;exact⟨fun h2=>by omega,fun h2=>by omega⟩
  obtain⟨k,rfl,hk1,hk2,hb,k1,k2⟩:=hcut;obtain⟨_,hn,hD,hr,hmo,_⟩:=H.out;clear H;have y0:wc.cell? ⟨w.heap.size,0,none⟩=some (.pointer (some ⟨g,0,none⟩)):=by rw[k1.cell];rfl
  have y2:wc.cell? ⟨g,1,none⟩=some (.slice A n c):=by rw[(hD.bk.below hb hg).cell,hn];rfl
  have y3:wc.cell? ⟨w.heap.size+1,0,none⟩=some (.int .i64 a):=by rw[k2.cell];rfl
  by_cases hkn:k<n
  ·obtain⟨q,hq⟩:∃q,xs[k]? = some q:=⟨_,List.getElem?_eq_getElem (by omega)⟩;obtain⟨ga,oa,rfl,_,hc⟩:=bS (lay:=nX) fw (hr.next hb).rd hq rfl;have y4:wc.cell? ⟨ga,oa+k*7+1,none⟩=some (.int .i64 (q.t.fr:Int)):=hc 1 _ rfl;have u1:decide (k<n)=true:=decide_eq_true hkn;have u2:(k:Int)<(n:Int):=by omega
   have u3:(0:Int)≤(k:Int):=by omega
   have hge:a≤(q.t.fr:Int):=Int.not_lt.1 fun h=>Nat.lt_irrefl k ((hk2 k q hq).2 (by omega))
   have hfin:(q.t.fr:Int)≠a→∀(i:Nat) (r:PV),xs[i]? = some r→(r.t.fr:Int)≠a:=by
     intro hne i r hr2;rcases Nat.lt_or_ge i k with h|h
     ·have:=(hk2 i r hr2).1 h;omega
     ·have:=hmo k i q r h hq hr2;omega
   have HF:=Lib.hid (And.intro hfin (And.intro hb hq));clear hfin hb hq hk2 hmo hr hD hc k1 k2 hn;by_cases he:(q.t.fr:Int)=a
   ·have u4:decide ((q.t.fr:Int)=a)=true:=decide_eq_true he;go_wp2;go_quiet (fail);all_goals go_wp2
    all_goals go_ret
    all_goals exact⟨_,rfl,.inl ⟨k,q,rfl,HF.out.2.2,he⟩,ae HF.out.2.1 _⟩
   ·have u4:decide ((q.t.fr:Int)=a)=false:=decide_eq_false he;go_wp2;go_quiet (fail);all_goals go_wp2
    all_goals go_ret
    all_goals exact⟨_,rfl,.inr ⟨rfl,HF.out.1 he⟩,ae HF.out.2.1 _⟩
  ·have u1:decide (k<n)=false:=decide_eq_false hkn;have hfin:∀(i:Nat) (r:PV),xs[i]? = some r→(r.t.fr:Int)≠a:=by
     intro i r hr2
     have:=(hk2 i r hr2).1 (by have:=(List.getElem?_eq_some_iff.1 hr2).1;omega)
     omega
   have HF:=Lib.hid (And.intro hfin hb);clear hfin hb hk2 hmo hr hD k1 k2 hn;go_wp2;go_quiet (fail);all_goals go_wp2
   all_goals go_ret
   all_goals exact⟨_,rfl,.inr ⟨rfl,HF.out.1⟩,ae HF.out.2 _⟩
theorem oe (dT sT ty elem:TypeId) (g n dCap sz:Nat) (a:Addr) (sCap:Nat) (cur:Array Value) (t:TypeId) (cs:List Value) (hu:P.underlying dT=some (.slice elem)) (hs:(P.info? elem).map (·.size)=some sz) (hg:w.heap[g]? = some (.cells cur t (0,0))) (hn:cs.length=n*sz) (hsrc:∀j v,cs[j]? = some v→w.cell? (a.add j)=some v) (hfit:cur.size=n*sz) (h1:∀v∈cs,v.oneCell'=true) :
    (Builtin.copy_ #[dT,sT] ty #[.slice (some ⟨g,0,none⟩) n dCap,.slice (some a) n sCap]).run P w=.ok (goInt n) (w.setRow g cs.toArray):=by
  have hl:=run_loadCells_list (P:=P) w a cs hsrc;have hst:=run_storeCells_at P g 0 t cs 0 cur w hg (by omega) h1;have e:(cur.toList.take (0+0)++cs++cur.toList.drop (0+0+cs.length)).toArray=cs.toArray:=by
    rw[hn,List.drop_eq_nil_of_le (by rw[Array.length_toList,hfit];omega)];simp
  rw[e] at hst
  cases hq:P.info? elem with
  | none=>simp[hq] at hs
  | some i=>
    have hi:i.size=sz:=by simpa [hq] using hs
    simp[Builtin.copy_,run_underlying hu,Builtin.lenOf,Builtin.firstCells,sizeOf,typeInfo,hq,hi,←hn,hl,hst]
def yC (b:Int) (q:PV):PV:=⟨⟨q.t.kd,((q.t.fr:Int)+b).toNat,((q.t.to:Int)+b).toNat,q.t.op⟩,q.X,q.v,q.Y,q.u⟩
theorem ng:dy (q::r)=nX q++dy r:=by simp[dy]
theorem fu:(dy ys).length=ys.length*7:=by induction ys with|nil=>rfl|cons q r ih=>rw[show q::r=[q]++r from rfl,ig,List.length_append,ih,List.length_append];simp[dy];omega
theorem pJ {ys:List PV} {q:PV} (h:ys[k]? = some q) (j:Nat) (hj:j<7):(dy ys)[k*7+j]? = (nX q)[j]? := by
  obtain⟨hk,rfl⟩:=List.getElem?_eq_some_iff.1 h;have e:ys=ys.take k++(ys[k]::ys.drop (k+1)):=by rw[←List.drop_eq_getElem_cons hk,List.take_append_drop]
  have hl:(dy (ys.take k)).length=k*7:=by rw[fu,List.length_take];omega
  rw[show dy ys=dy (ys.take k)++(nX ys[k]++dy (ys.drop (k+1))) by conv=>lhs;rw[e,ig,ng]];rw[List.getElem?_append_right (by omega),hl,show k*7+j-k*7=j by omega,List.getElem?_append_left (by rw[fw];exact hj)]
theorem Br {b:Int} {ys:List PV} {q:PV} (h:ys[k]? = some q) (h1:0≤(q.t.fr:Int)+b) (h2:0≤(q.t.to:Int)+b) :
    ((dy ((ys.take k).map (yC b)++ys.drop k)).set (k*7+1) (.int .i64 ((q.t.fr:Int)+b))).set (k*7+2) (.int .i64 ((q.t.to:Int)+b))=dy ((ys.take (k+1)).map (yC b)++ys.drop (k+1)):=by
  obtain⟨hk,rfl⟩:=List.getElem?_eq_some_iff.1 h;have hl:(dy ((ys.take k).map (yC b))).length=k*7:=by rw[fu,List.length_map,List.length_take];omega
  rw[List.drop_eq_getElem_cons hk,ig,List.set_append_right _ _ (by omega),List.set_append_right _ _ (by omega),hl,show k*7+1-k*7=1 by omega,show k*7+2-k*7=2 by omega,
    List.take_succ_eq_append_getElem hk,List.map_append,List.append_assoc,ig,ng,List.map_singleton,List.singleton_append,ng]
  congr 1;simp only[nX,yC,Int.toNat_of_nonneg h1,Int.toNat_of_nonneg h2];rfl
theorem BV (b:Int) (w:World) (h0:0<ys.length) (hl:ys.length≤10000) (hb : -10000≤b∧b≤10000) (hr:Rt w 96 7 (.slice A ys.length c) ys.length (dy ys)) (hq:∀q∈ys,0≤(q.t.fr:Int)+b∧0≤(q.t.to:Int)+b∧q.t.fr≤10000∧q.t.to≤10000∧∃A n c,q.v=.slice A n c) :
    Calls Tryz.prog 72 #[.slice A ys.length c,.int .i64 b] w fun e w'=>∃v,e=.returned v∧w'.ownsRow w.heap.size 96 7 v ys.length (dy (ys.map (yC b)))∧Below w.heap.size w w':=by
  obtain⟨i0,hi,hz0,hz1,hz2⟩:=info_parts Tryz.infoPlace;obtain⟨q0,hq0⟩:∃q,ys[0]? = some q:=⟨_,List.getElem?_eq_getElem h0⟩;obtain⟨ga,oa,rfl,hga,hc⟩:=bS (lay:=nX) fw hr.rd hq0 rfl;obtain⟨w1,hmk,hown1,hg1⟩:=run_makeSlice_full (P:=Tryz.prog) w w.heap.size 85 96 i0 _ 7 Tryz.underlying85 hi hz0 hz1 .i64 .i64 ys.length (by omega) (by rw[hz2];omega) (by unfold maxLen;omega) (Nat.le_refl _);have hb1:Below w.heap.size w w1:=(Below.refl _ w).grown hg1 (Nat.le_refl _) (fun k hk=>by cases hk);have hr1:=hr.next hb1;obtain⟨cur,hcur⟩:∃cur:Array Value,w1.heap[w.heap.size]? = some (.cells cur 96 (0,0))∧cur.size=ys.length*7:=by
    rcases hown1.2 with ⟨h,_⟩|⟨g,cap,cur,h,_,hh,h5,h6,h7,h8⟩
    ·simp at h
    ·simp only[Value.slice.injEq,Option.some.injEq,Addr.mk.injEq,and_true,true_and] at h;obtain⟨rfl,rfl⟩:=h;exact⟨cur,hh,h7⟩
  obtain⟨hcur,hcs⟩:=hcur;have hcp:=oe (P:=Tryz.prog) w1 85 85 3 96 w.heap.size ys.length ys.length 7 ⟨ga,oa,none⟩ c cur 96 (dy ys) Tryz.underlying85 (by rw[hi];simp[hz1]) hcur (fu ys) (by
    intro j v hj;have hjl:j<ys.length*7:=by have:=(List.getElem?_eq_some_iff.1 hj).1;rwa [fu] at this
    obtain⟨q,hqk⟩:∃q,ys[j/7]? = some q:=⟨_,List.getElem?_eq_getElem (by omega)⟩;obtain⟨g2,o2,he,_,hc2⟩:=bS (lay:=nX) fw hr1.rd hqk rfl;injection he with he
    injection he with he1 he2
    subst he1 he2;have h1:=pJ hqk (j%7) (Nat.mod_lt _ (by omega));rw[show j/7*7+j%7=j by omega,hj] at h1
    have:=hc2 (j%7) v h1.symm
    rwa [show oa+j/7*7+j%7=oa+j by omega,←show (⟨ga,oa,none⟩:Addr).add j=⟨ga,oa+j,none⟩ by unfold Addr.add;split<;>simp_all] at this) hcs (by
    intro v hv;obtain⟨q,hq1,hq2⟩:=List.mem_flatMap.1 hv;obtain⟨_,_,_,_,A',n',c',hqv⟩:=hq q hq1;simp only[nX,hqv,List.mem_cons,List.not_mem_nil,or_false] at hq2;rcases hq2 with rfl|rfl|rfl|rfl|rfl|rfl|rfl<;>rfl)
  have hown2:(w1.setRow w.heap.size (dy ys).toArray).ownsRow w.heap.size 96 7 (.slice (some ⟨w.heap.size,0,none⟩) ys.length ys.length) ys.length (dy ys):=
    ⟨fu ys,.inr ⟨w.heap.size,ys.length,(dy ys).toArray,rfl,Nat.le_refl _,setRow_heap w1 w.heap.size cur _ _ _ hcur,Nat.le_refl _,by unfold maxLen;omega,by rw[List.size_toArray,fu],by rw[List.take_of_length_le (by simp[fu])]⟩⟩
  have hb2:Below w.heap.size w (w1.setRow w.heap.size (dy ys).toArray):=below_setRow hb1 (Nat.le_refl _) _;generalize w1.setRow w.heap.size (dy ys).toArray=w2 at hcp hown2 hb2;have H:=Lib.hid (And.intro hown2 (And.intro hb2 hq));clear hown2 hb2 hq hown1 hg1 hb1 hr1 hcur hcs hr hc hq0;have hmap:∀k,k≤ys.length→((ys.take k).map (yC b)++ys.drop k).length=ys.length:=fun k hk=>by simp;omega
  have HM:=Lib.hid hmap;clear hmap;go_enter Tryz.func72,Tryz.ntmps72;go_wp2;go_loopw [15] (fun s15 wr=>∃k:Nat,k≤ys.length∧s15=.int .i64 (k:Int)∧wr.ownsRow w.heap.size 96 7 (.slice (some ⟨w.heap.size,0,none⟩) ys.length ys.length) ys.length (dy ((ys.take k).map (yC b)++ys.drop k))∧Below w.heap.size w wr) (fun s15 _=>ys.length-(intOf s15).toNat)
  case atStart=>exact⟨0,Nat.zero_le _,rfl,H.out.1,H.out.2.1⟩
  case round=>
    obtain⟨k,hk,rfl,hown,hbl⟩:=hrel;by_cases hlt:k<ys.length
    ·have u1:(k:Int)<(ys.length:Int):=by omega
     have u2:(0:Int)≤(k:Int):=by omega
     obtain⟨q,hqk⟩:∃q,ys[k]? = some q:=⟨_,List.getElem?_eq_getElem hlt⟩;obtain⟨e1,e2,e3,e4,_⟩:=H.out.2.2 q (List.mem_of_getElem? hqk);have hput:=Br hqk e1 e2;have hg2:((ys.take k).map (yC b)++ys.drop k)[k]? = some q:=by
       rw[List.getElem?_append_right (by simp;omega)];simp[List.getElem?_drop,hqk,Nat.min_eq_left hk]
     have y1:wr.cell? ⟨w.heap.size,k*7+1,none⟩=some (.int .i64 (q.t.fr:Int)):=aJ hown _ _ (by rw[pJ hg2 1 (by omega)];rfl);have y2:wr.cell? ⟨w.heap.size,k*7+2,none⟩=some (.int .i64 (q.t.to:Int)):=aJ hown _ _ (by rw[pJ hg2 2 (by omega)];rfl);have f1:=cQ hown (k*7+1);have f2:=cQ hown (k*7+2);have v1:IntKind.i64.wrap ((q.t.fr:Int)+b)=(q.t.fr:Int)+b:=IntWalk.i64_in _ (by omega);have v2:IntKind.i64.wrap ((q.t.to:Int)+b)=(q.t.to:Int)+b:=IntWalk.i64_in _ (by omega);have hs1:=hown.stored (k*7+1) (.int .i64 ((q.t.fr:Int)+b));have hs2:=hs1.1.stored (k*7+2) (.int .i64 ((q.t.to:Int)+b));rw[hput] at hs2;have HS:=Lib.hid (And.intro hs1.2 (And.intro hs2 hbl));clear hs1 hs2 hput hg2 hown hbl hqk;go_wp2;exact⟨⟨k+1,by omega,by go_num,HS.out.2.1.1,(HS.out.2.2.grown HS.out.1 HS.out.2.2.size (fun k hk=>by injection hk with hk;omega)).grown HS.out.2.1.2 (Nat.le_trans HS.out.2.2.size HS.out.1.size) (fun k hk=>by injection hk with hk;omega)⟩,by simp[intOf];omega⟩
    ·obtain rfl:k=ys.length:=by omega
     rw[List.take_length,List.drop_length,List.append_nil] at hown;have HS:=Lib.hid (And.intro hown hbl);clear hown hbl;have u1:¬(ys.length:Int)<(ys.length:Int):=by omega
     go_wp2;go_ret;exact⟨_,rfl,HS.out.1,HS.out.2⟩
theorem mK {ys:List PV} (h:∀q∈ys,∃A n c,q.v=.slice A n c):∀u∈dy ys,u.oneCell'=true:=by
  intro v hv;obtain⟨q,hq1,hq2⟩:=List.mem_flatMap.1 hv;obtain⟨A',n',c',hqv⟩:=h q hq1;simp only[nX,hqv,List.mem_cons,List.not_mem_nil,or_false] at hq2;rcases hq2 with rfl|rfl|rfl|rfl|rfl|rfl|rfl<;>rfl
theorem ri (k:Nat):(dy ys).take (k*7)=dy (ys.take k):=by
  have h1:dy ys=dy (ys.take k)++dy (ys.drop k):=by rw[←ig,List.take_append_drop]
  by_cases hk:k≤ys.length
  ·rw[h1,List.take_left' (by rw[fu,List.length_take];omega)]
  ·rw[List.take_of_length_le (by rw[fu];omega),List.take_of_length_le (by omega)]
theorem zQ (w:World) (h:Rd w w.heap.size 7 (.slice A ys.length c) ys.length (dy ys)) (hl:ys.length≤10000) (hv:∀q∈ys,∃A n c,q.v=.slice A n c) :
    Calls Tryz.prog 69 #[.slice A ys.length c] w fun e w'=>∃v,e=.returned v∧w'.ownsRow w.heap.size 96 7 v ys.length (dy ys)∧Below w.heap.size w w':=by
  have hnil:=fun (W:World)=>Lib.run_eql_slice_nil (P:=Tryz.prog) W
  have hone:=mK hv;clear hv;obtain⟨n,hn⟩:∃n,n=ys.length:=⟨_,rfl⟩;rw[←hn] at h hl ⊢
  cases A with
  | none=>
    obtain⟨h1,A',c',h2,h3,h4,h5,h6⟩:=h
    cases h2;have hc:=h5 rfl;subst hc;obtain rfl:n=0:=by omega
    obtain rfl:ys=[]:=List.eq_nil_of_length_eq_zero hn.symm;clear h1 h4 h5 h6 h3 hn hl;go_enter Tryz.func69,Tryz.ntmps69;go_wp2;go_ret;exact⟨_,rfl,⟨rfl,.inl ⟨rfl,rfl⟩⟩,Below.refl _ _⟩
  | some A=>
    obtain⟨i0,hi,hz0,hz1,hz2⟩:=info_parts Tryz.infoPlace;have H:=Lib.hid (And.intro h hn);clear h hn;go_enter Tryz.func69,Tryz.ntmps69
    go_wp2_with (first
      | (at_builtin
         refine dE rfl (.tmp 5) (.tmp 6) 85 rfl w.heap.size 96 i0 _ 7 72 Tryz.underlying85 hi hz0 hz1 hz2 rfl (by decide) (.slice (some ⟨w.heap.size,0,none⟩) 0 0) 0 [] rfl (World.ownsRow_made _ _ _ (Nat.le_refl _) (by unfold maxLen;omega) (by simp)) (.slice (some A) n c) n w.heap.size (dy ys) rfl (H.out.1.keep (by go_grown) (Nat.le_refl _)) hone (by unfold maxLen;omega) (by omega) (by simp) ?_;intro v1 w1 hown1 hg1 hv1))
    go_ret;exact⟨v1,rfl,by simpa using hown1,((Below.refl _ _).alloc (Nat.le_refl _) _).grown hg1 (by simp) (by intro k hk;simp[Value.ownBlock] at hk;omega)⟩
theorem vD (lv pv:Value) (k:Nat) (w:World) (hD:jF w g l X xs lv pv) (hr:Rt w 96 7 lv xs.length (dy xs)) (hx:xs.length≤10000) (hl:l.length≤100000) (hk:k≤xs.length) :
    Calls Tryz.prog 68 #[.pointer (some ⟨g,0,none⟩),.int .i64 (k:Int)] w fun e w'=>∃(x:Nat) (Z:Lx) (v:Value),e=.returned (.tuple #[.int .i64 (x:Int),.agg #[.int .i64 Z.aw,v,.bool Z.bd]])∧Rt w 134 2 v Z.pd.length (bK Z.pd) ∧
      ((∃q,xs[k]? = some q∧x=q.t.fr∧Z=q.X)∨(k=xs.length∧x=l.length∧Z=X))∧Below w.heap.size w w':=by
  obtain⟨A,c,rfl⟩:=hr.form;obtain⟨n,hn⟩:∃n,n=xs.length:=⟨_,rfl⟩;obtain⟨pA,pc,rfl⟩:=hD.pv.form;have hg:=hD.bk.lt;have a1:¬g=w.heap.size:=by omega
  have a2:¬w.heap.size=g:=by omega
  have y0:w.cell? ⟨g,0,none⟩=some (.string ⟨l.toArray⟩):=by rw[hD.bk.cell];rfl
  have y1:w.cell? ⟨g,1,none⟩=some (.slice A n c):=by rw[hD.bk.cell,hn];rfl
  have y2:w.cell? ⟨g,2,none⟩=some (.int .i64 X.aw):=by rw[hD.bk.cell];rfl
  have y3:w.cell? ⟨g,3,none⟩=some (.slice pA X.pd.length pc):=by rw[hD.bk.cell];rfl
  have y4:w.cell? ⟨g,4,none⟩=some (.bool X.bd):=by rw[hD.bk.cell];rfl
  by_cases hkn:k<n
  ·obtain⟨q,hq⟩:∃q,xs[k]? = some q:=⟨_,List.getElem?_eq_getElem (by omega)⟩;obtain⟨ga,oa,rfl,hga,hc⟩:=bS (lay:=nX) fw hr.rd hq rfl;have hps:=hD.ps q (List.mem_of_getElem? hq);obtain⟨qt,qX,qv,qY,qu⟩:=q;replace hps:Rt w 134 2 qv qX.pd.length (bK qX.pd):=hps;obtain⟨qA,qc,rfl⟩:=hps.form;have b1:¬ga=w.heap.size:=by omega
   have b2:¬w.heap.size=ga:=by omega
   have z1:w.cell? ⟨ga,oa+k*7+1,none⟩=some (.int .i64 (qt.fr:Int)):=hc 1 _ rfl;have z2:w.cell? ⟨ga,oa+k*7+4,none⟩=some (.int .i64 qX.aw):=hc 4 _ rfl;have z3:w.cell? ⟨ga,oa+k*7+4+1,none⟩=some (.slice qA qX.pd.length qc):=hc 5 _ rfl;have z4:w.cell? ⟨ga,oa+k*7+4+2,none⟩=some (.bool qX.bd):=hc 6 _ rfl;have u2:(k:Int)<(n:Int):=by omega
   have u3:(0:Int)≤(k:Int):=by omega
   have HF:=Lib.hid (And.intro hps hq);clear hps hq hD hr hc hn y0 y2 y3 y4;go_enter Tryz.func68,Tryz.ntmps68;go_wp2;go_region;all_goals go_wp2
   all_goals refine bodyPost_ret (v:=.tuple #[.int .i64 (qt.fr:Int),.agg #[.int .i64 qX.aw,.slice qA qX.pd.length qc,.bool qX.bd]]) (by simp[results,Tryz.results68,go_sem]) rfl ?_
   all_goals exact⟨qt.fr,qX,_,rfl,HF.out.1,.inl ⟨_,HF.out.2,rfl,rfl⟩,((Below.refl _ _).alloc (Nat.le_refl _) _).drew⟩
  ·have u2:¬(k:Int)<(n:Int):=by omega
   have HF:=Lib.hid (And.intro hD.pv (show k=xs.length by omega));clear hD hr hn hk;go_enter Tryz.func68,Tryz.ntmps68;go_wp2;go_region;all_goals go_wp2
   all_goals refine bodyPost_ret (v:=.tuple #[.int .i64 (l.length:Int),.agg #[.int .i64 X.aw,.slice pA X.pd.length pc,.bool X.bd]]) (by simp[results,Tryz.results68,go_sem]) rfl ?_
   all_goals exact⟨l.length,X,_,rfl,HF.out.1,.inr ⟨HF.out.2,rfl,rfl⟩,((Below.refl _ _).alloc (Nat.le_refl _) _).drew⟩
theorem wN (lv pv:Value) (w:World) (hD:jF w g l X xs lv pv) :
    CW 17 #[.pointer (some ⟨g,0,none⟩)] w (.string ⟨l.toArray⟩):=by
  have y0:w.cell? ⟨g,0,none⟩=some (.string ⟨l.toArray⟩):=by rw[hD.bk.cell];rfl
  clear hD;go_enter Tryz.func17,Tryz.ntmps17;go_wp2;go_ret;exact⟨rfl,rfl⟩
end Go.Proofs.YtfagdpfgifgnoaaGreatDoor
