/- Chapter 10: what its laws share: edits in memory, short, right, awake, and Apply of any edit. -/
import Derived.Test.YtfagdpfgifgnoaaGreatDoorAp2
set_option linter.unusedVariables false
set_option linter.unusedSimpArgs false
set_option maxRecDepth 100000
set_option maxHeartbeats 8000000
namespace Go.Proofs.YtfagdpfgifgnoaaGreatDoor
open Go.RowKit
theorem xZ (l:List UInt8):∀x X,(jC l x X).1=(cN l x X).map Prod.fst:=
  kw l (fun x X h=>by rw[eD,cx,if_neg h,if_neg h];rfl) (fun x X h ih=>by rw[eD,cx,if_pos h,if_pos h];simp[ih])
structure Ez where
  a:Int
  d:List UInt8
  i:List UInt8
  ha : -9223372036854775808≤a∧a≤9223372036854775807
theorem Ek (r:List Value) (hl:r.length=[FK.i,FK.s,FK.s].length) (h:Qk [.i,.s,.s] r):∃x:Ez,r=[.int .i64 x.a,.string ⟨x.d.toArray⟩,.string ⟨x.i.toArray⟩]:=by
  obtain⟨v0,h0,n,rfl,hn⟩:=h 0 .i rfl;obtain⟨v1,h1,l,rfl,_⟩:=h 1 .s rfl;obtain⟨v2,h2,m,rfl,_⟩:=h 2 .s rfl
  match r,hl with
  | [x,y,z],_=>
    simp at h0 h1 h2;subst h0 h1 h2;exact⟨⟨n,l,m,hn⟩,rfl⟩
def Gn (x:Ez):List Value:=[.int .i64 x.a,.string ⟨x.d.toArray⟩,.string ⟨x.i.toArray⟩]
theorem Cp (x:Ez):(Gn x).length=3:=rfl
def Ft (L:List Ez):List Value:=L.flatMap Gn
theorem FY:∀rows:List (List Value),(∀r∈rows,r.length=[FK.i,FK.s,FK.s].length∧Qk [.i,.s,.s] r)→∃xs:List Ez,rows.flatten=Ft xs∧xs.length=rows.length:=oB Gn Ek
def xd (x:Ez):Bool:=decide (x.d.length≤60)&&decide (x.i.length≤60)
theorem mE.next {w w':World} {g:Nat} {l:List UInt8} (h:mE w g l) (hb:Below w.heap.size w w'):mE w' g l:=by
  obtain⟨xs,lv,pv,h1,h2,h3⟩:=h;exact⟨xs,lv,pv,h1,h2.below hb,h3.next hb⟩
theorem GD {w:World} {B n c:Nat} {A:Option Addr} {L:List Ez} (h:Rd w B 3 (.slice A n c) n (Ft L)) {k:Nat} {x:Ez} (hk:L[k]? = some x) (hn:n=L.length) :
    ∃g o,A=some ⟨g,o,none⟩∧g<B∧w.cell? ⟨g,o+k*3,none⟩=some (.int .i64 x.a)∧w.cell? ⟨g,o+k*3+1,none⟩=some (.string ⟨x.d.toArray⟩)∧w.cell? ⟨g,o+k*3+2,none⟩=some (.string ⟨x.i.toArray⟩):=by
  obtain⟨g,o,h1,h2,h3⟩:=bS Cp h hk hn;exact⟨g,o,h1,h2,h3 0 _ rfl,h3 1 _ rfl,h3 2 _ rfl⟩
def FZ (l:List UInt8) (x:Ez):List UInt8:=if lE l x.d x.a=true then mt l x.d x.i x.a else l
theorem F5 (g:Nat) (l:List UInt8) (x:Ez) (w:World) (hD:mE w g l) (hl:l.length+60≤900) (hs:xd x=true) :
    Calls Tryz.prog 45 #[.pointer (some ⟨g,0,none⟩),.agg #[.int .i64 x.a,.string ⟨x.d.toArray⟩,.string ⟨x.i.toArray⟩]] w fun e w'=>∃h t:Int,e=.returned (.tuple #[.agg #[.int .i64 h,.int .i64 t],.int .i64 (if lE l x.d x.a=true then 0 else 1)]) ∧
      (lE l x.d x.a=false→h=0∧t=0)∧(lE l x.d x.a=true→∃(ed:Ed) (T:Nat),ed.old=l∧ed.new=FZ l x∧(ed.a.length:Int)=x.a∧ed.d=x.d∧ed.i=x.i∧jd ed T∧h=(nZ ed.old ed.a.length:Int)∧t=(T:Int))∧mE w' g (FZ l x)∧(FZ l x).length≤l.length+60∧w.grownBy w' (some g):=by
  obtain⟨a,d,i,ha⟩:=x;unfold xd at hs;simp only[Bool.and_eq_true,decide_eq_true_eq] at hs;replace ha : -9223372036854775808≤a∧a≤9223372036854775807:=ha;unfold FZ;show Calls _ _ #[_,zy a d i] w _;by_cases hok:lE l d a=true
  ·obtain⟨ed,e1,e2,e3,e4,e5⟩:=tF hok i;have hln:(mt l d i a).length≤l.length+60:=by
     rw[←e2,←e1];unfold Ed.new Ed.old;rw[e4,e5];simp only[List.length_append];omega
   have h:=Ae g ed w (by rw[e1];exact hD) (by rw[e1];omega) (by rw[e2];omega) (by rw[e1,e4,e3];exact hok) (by rw[e1,e4,e5,e3,e2]);rw[e3,e4,e5] at h;refine h.mono ?_;rintro e w' ⟨T,hT,rfl,hD',hg⟩;rw[e2] at hD';simp only[hok,if_true];exact⟨_,_,rfl,(fun h=>by cases h),fun _=>⟨ed,T,e1,e2,e3,e4,e5,hT,rfl,rfl⟩,hD',hln,hg⟩
  ·have hok:lE l d a=false:=by simpa using hok
   obtain⟨xs,lv,pv,hpr,hD1,hr⟩:=hD;refine(ws g l d i a _ xs lv pv w hD1 (by omega) (by omega) (by omega) ha hok).mono ?_;rintro e w' ⟨rfl,hb⟩;simp only[hok,if_false,Bool.false_eq_true];exact⟨0,0,rfl,fun _=>⟨rfl,rfl⟩,(fun h=>by cases h),⟨xs,lv,pv,hpr,hD1.below hb,hr.next hb⟩,by omega,⟨hb.1,hb.2,hb.3,hb.size,fun k hk _=>hb.block k hk⟩⟩
section
open Go.RowKit Go.ChangeShapes Go.WideShapes Go.Deep
end
end Go.Proofs.YtfagdpfgifgnoaaGreatDoor
set_option linter.unusedVariables false
set_option linter.unusedSimpArgs false
set_option maxRecDepth 100000
set_option maxHeartbeats 8000000
namespace Go.Proofs.YtfagdpfgifgnoaaGreatDoor
open Go.RowKit
variable {x:Ez} {a:Int} {xs:List PV} {ts:List Tk} {l l' d i:List UInt8} {Y:Lx} {bx N:Nat} {v v3:Value} {W W':World} (g:Nat) (e:Ed)
theorem uq (hpr:fC xs=cM l):sF xs=(dV l).1:=by
  have h1:=xZ l 0 iV;have h2:=congrArg (List.map Prod.fst) hpr;rw[show (dV l).1=(jC l 0 iV).1 from rfl,h1,←h2];simp[sF,fC]
theorem F1 (l:List UInt8) (w:World) (hD:mE w g l) :
    CW 17 #[.pointer (some ⟨g,0,none⟩)] w (.string ⟨l.toArray⟩):=by
  obtain⟨xs,lv,pv,hpr,hD,hr⟩:=hD;exact wN g l _ xs lv pv w hD
theorem Gp (l:List UInt8) (w:World) (hD:mE w g l) (hl:l.length≤900) :
    Calls Tryz.prog 23 #[.pointer (some ⟨g,0,none⟩)] w fun e w'=>∃v,e=.returned v∧w'.ownsRow w.heap.size 94 4 v (dV l).1.length (fU (dV l).1)∧Below w.heap.size w w':=by
  obtain⟨xs,lv,pv,hpr,hD,hr⟩:=hD;obtain⟨hlen1,hlen2⟩:=pK hpr;have h:=qH g l _ xs lv pv w hD hr (by omega);rw[uq hpr] at h;have htl:(dV l).1.length=xs.length:=by rw[←uq hpr];simp[sF]
  rwa [←htl] at h
structure EC (w:World) (g bx:Nat) (l:List UInt8) (x:Ez) (N:Nat) (ts:List Tk) (v v3:Value) (Y:Lx) (W:World):Prop where
  doc:mE W g l
  be:Bk W w.heap.size 33 #[.int .i64 x.a,.string ⟨x.d.toArray⟩,.string ⟨x.i.toArray⟩]
  bx:Bk W bx 88 #[.int .i64 Y.aw,v3,.bool Y.bd]
  row:W.ownsRow w.heap.size 94 4 v N (fU ts)
  rt:Rt W 134 2 v3 Y.pd.length (bK Y.pd)
  hb:Below w.heap.size w W
theorem EC.below {w:World} {g:Nat} (h:EC w g bx l x N ts v v3 Y W) (hb:Below W.heap.size W W'):EC w g bx l x N ts v v3 Y W':=
  ⟨h.doc.next hb,h.be.below hb h.be.lt,h.bx.below hb h.bx.lt,aN h.row hb,h.rt.next hb,h.hb.trans (hb.mono h.hb.size)⟩
theorem EC.apply {w:World} {g:Nat} (h:EC w g bx l x N ts v v3 Y W) (hgw:w.heap.size≤g) (hg:W.grownBy W' (some g)) (hD:mE W' g l'):EC w g bx l' x N ts v v3 Y W':=by
  obtain⟨xs,lv,pv,h1,h2,h3⟩:=h.doc;have n1:w.heap.size≠g:=fm h.be h2.bk (by decide);have n2:bx≠g:=fm h.bx h2.bk (by decide)
  exact⟨hD,h.be.grown hg (fun e=>n1 (by injection e)),h.bx.grown hg (fun e=>n2 (by injection e)),h.row.kept hg (.inr (fun e=>aL h.row h2.bk (by decide) e)),
    h.rt.keep hg (fun k hk=>by injection hk with hk;subst hk;exact⟨_,_,_,h2.bk,by decide⟩),Below.grown h.hb hg h.hb.size (fun k hk=>by injection hk with hk;omega)⟩
theorem yp:lE e.old e.d (e.a.length:Int)=true∧mt e.old e.d e.i (e.a.length:Int)=e.new:=by
  have h1:e.old.drop e.a.length=e.d++e.c:=by unfold Ed.old;rw[List.drop_left]
  refine⟨?_,?_⟩
  ·rw[BQ (by unfold Ed.old;simp only[List.length_append];omega) (by unfold Ed.old;simp only[List.length_append];omega),h1,List.take_left];simp
  ·unfold mt Ed.new;rw[Int.toNat_natCast,←List.drop_drop,h1,List.drop_left];unfold Ed.old;rw[List.take_left]
theorem FU (h:lE l d a=true):lE (mt l d i a) i a=true∧mt (mt l d i a) i d a=l:=by
  obtain⟨e,e1,e2,e3,e4,e5⟩:=tF h i
  have:=yp ⟨e.a,e.i,e.d,e.c⟩
  rw[show (⟨e.a,e.i,e.d,e.c⟩:Ed).old=e.new from rfl,show (⟨e.a,e.i,e.d,e.c⟩:Ed).new=e.old from rfl] at this;rw[e2,e1,e3,e4,e5] at this;exact this
end Go.Proofs.YtfagdpfgifgnoaaGreatDoor
