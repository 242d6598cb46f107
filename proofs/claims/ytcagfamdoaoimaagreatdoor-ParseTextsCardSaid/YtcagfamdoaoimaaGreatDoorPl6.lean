/- Plain functions of chapters 4 and 6: the classes of bytes, and the machine of modes as the program and as the reference have it. No program is in sight. -/
import Derived.Lib.Hide
import Derived.WalkKit
set_option linter.unusedVariables false
set_option linter.unusedSimpArgs false
set_option maxRecDepth 100000
set_option maxHeartbeats 8000000
namespace Go.Proofs.YtcagfamdoaoimaaGreatDoor
section
open Go.RowKit
abbrev aa:=@Lib.hid
abbrev ac:=@And.intro
abbrev ae:=@List.setIfInBounds_toArray
abbrev ai:=@List.getElem_cons_succ
abbrev aj:=@List.getElem_cons_zero
abbrev am:=@List.getElem_toArray
abbrev an:=@Nat.le_refl
abbrev ar:=@List.set_cons_zero
abbrev au:=@List.set_cons_succ
abbrev ax:=@List.getElem?_eq_getElem
abbrev ay:=@beq_eq_false_iff_ne
abbrev az:=@bodyPost_ret
abbrev aA:=@Nat.le_trans
abbrev aB:=@if_neg
abbrev aC:=@List.getElem?_eq_some_iff
abbrev aD:=@Below.refl
abbrev aE:=@if_pos
abbrev aF:=@List.getD_eq_getElem?_getD
abbrev aG:=@Decidable.em
abbrev aH:=@List.length_append
abbrev aI:=@results_none
abbrev aJ:=@decide_eq_true
abbrev aK:=@Bool.false_eq_true
abbrev aL:=@beq_false_of_ne
abbrev aM:=@List.getElem?_cons_zero
abbrev aN:=@Array.getElem?_eq_some_iff
abbrev aO:=@List.length_cons
abbrev aP:=@List.getElem?_toArray
abbrev aQ:=@List.getElem?_append_left
abbrev aR:=@beq_iff_eq
abbrev aS:=@callsIn_wide
abbrev aT:=@List.getElem?_append_right
abbrev aU:=@decide_eq_false
abbrev aV:=@IntWalk.i64_in
abbrev aW:=@List.mem_of_getElem?
abbrev aX:=@Bool.and_eq_true
abbrev aY:=@Bool.eq_iff_iff
abbrev aZ:=@Below.alloc
abbrev bc:=@World.size_alloc
abbrev bj:=@Nat.le_of_lt
abbrev bp:=@Exit.noGoto_normal
abbrev bq:=@List.getElem?_map
abbrev br:=@if_false
abbrev bu:=@Below.heap_setCell
abbrev bv:=@List.cons_append
abbrev bz:=@wp_region_lit
abbrev bA:=@Nat.lt_of_lt_of_le
abbrev bB:=@Array.replicate_succ
abbrev bC:=@Array.replicate_zero
abbrev bE:=@Nat.succ_le_succ
abbrev bF:=@Exit.noGoto_ret
abbrev bG:=@List.append_toArray
abbrev bH:=@List.take_succ_eq_append_getElem
abbrev bI:=@List.length_nil
abbrev bJ:=@List.eq_nil_of_length_eq_zero
abbrev bK:=@Nat.zero_le
abbrev bM:=@List.append_nil
abbrev bN:=@List.mem_append
abbrev bP:=@List.take_of_length_le
abbrev bQ:=@wpList_step
abbrev bR:=@List.mem_cons
abbrev bS:=@List.nil_append
abbrev bT:=@List.size_toArray
abbrev bU:=@List.push_toArray
abbrev bV:=@World.ownsRow_nil
abbrev bW:=@if_true
abbrev bX:=@List.all_eq_true
abbrev bY:=@Nat.le_succ
abbrev bZ:=@List.getElem?_drop
abbrev cg:=@List.length_take
abbrev cj:=@List.mem_cons_of_mem
abbrev cm:=@wpList_nil
abbrev cq:=@List.append_assoc
abbrev cw:=@List.IsPrefix.trans
abbrev cx:=@List.getElem?_eq_none
abbrev cy:=@decide_eq_true_eq
abbrev cz:=@info_parts
abbrev cC:=@List.length_map
abbrev cD:=@List.map_append
abbrev cE:=@List.map_cons
abbrev cF:=@Nat.zero_add
abbrev cG:=@List.take_succ_cons
abbrev cH:=@List.mem_map
abbrev cI:=@List.getElem?_cons_succ
abbrev cJ:=@Bool.true_and
abbrev cK:=@List.map_congr_left
abbrev cL:=@List.pairwise_iff_getElem
abbrev cM:=@Oper.semAt_some
abbrev cN:=@Bool.false_and
abbrev cO:=@Nat.lt_or_ge
abbrev cP:=@List.mem_of_mem_take
abbrev cQ:=@List.getElem?_take
abbrev cR:=@Below.grown
abbrev cS:=@List.takeWhile_cons_of_neg
abbrev cT:=@List.mem_range
abbrev cU:=@List.drop_eq_getElem_cons
abbrev cV:=@UInt8.toNat_inj
abbrev cW:=@Nat.min_eq_left
abbrev db:=@of_decide_eq_true
abbrev dc:=@Nat.sub_self
abbrev de:=@Nat.mul_le_mul_right
abbrev dh:=@List.takeWhile_cons_of_pos
abbrev di:=@List.nodup_iff_pairwise_ne
abbrev dj:=@Nat.lt_succ_self
abbrev dk:=@Int.toNat_natCast
abbrev dm:=@List.take_append_drop
abbrev dq:=@wp_loop_rounds
abbrev dr:=@List.mem_cons_self
abbrev dt:=@Below.heap_alloc
abbrev du:=@results_tmp
abbrev dv:=@rounds_succ
abbrev dw:=@List.idxOf_lt_length_of_mem
abbrev dx:=@List.drop_zero
abbrev dy:=@List.takeWhile_cons
abbrev dA:=@Bool.or_eq_true
abbrev dB:=@Classical.byContradiction
abbrev dC:=@List.length_singleton
abbrev dD:=@callsIn_of_wp
abbrev dE:=@Nat.add_assoc
abbrev dF:=@ne_eq
abbrev dG:=@List.find?_eq_none
abbrev dH:=@List.set_append_right
abbrev dI:=@Below.drew
end
theorem fm (p:UInt8→Bool) (h:(List.range 256).all (fun n=>p (UInt8.ofNat n))=true) (c:UInt8):p c=true:=by
  have h1:=bX.1 h c.toNat (cT.2 c.toNat_lt)
  rwa [UInt8.ofNat_toNat] at h1
def fp (c:UInt8):Int:=
  if c.toNat=32∨c.toNat=9 then 1
  else if c.toNat=10 then 2
  else if 48≤c.toNat∧c.toNat≤57 then 6
  else if (97≤c.toNat∧c.toNat≤122)∨(65≤c.toNat∧c.toNat≤90)∨c.toNat=95 then 5
  else if c.toNat=124∨c.toNat=38∨c.toNat=59∨c.toNat=60∨c.toNat=62∨c.toNat=40∨c.toNat=41 then 3
  else if c.toNat=92∨c.toNat=39∨c.toNat=34∨c.toNat=96∨c.toNat=36 then 4
  else 0
def gU (c:UInt8):Bool:=decide (fp c=1∨fp c=2∨fp c=3)
def eG (c:UInt8):Int:=
  if c.toNat=84 then 0 else if c.toNat=67 then 1 else if c.toNat=80 then 2 else if c.toNat=79 then 3 else if c.toNat=83 then 4 else if c.toNat=68 then 5 else if c.toNat=66 then 6
  else if c.toNat=86 then 7 else if c.toNat=73 then 8 else if c.toNat=65 then 9 else if c.toNat=82 then 10 else if c.toNat=69 then 11 else if c.toNat=76 then 12 else if c.toNat=88 then 13 else if c.toNat=35 then 14 else 15
def uK (c:UInt8) (l:List UInt8):Bool:=l.any fun d=>decide (d.toNat=c.toNat)
theorem yR (c:UInt8) (l:List UInt8) (k:Nat) (h:k<l.length):uK c (l.take (k+1))=(uK c (l.take k)||decide ((l[k]'h).toNat=c.toNat)):=by
  unfold uK;rw[bH h,List.any_append];simp
theorem yS (c:UInt8) (l:List UInt8) (k:Nat) (h:uK c (l.take k)=true):uK c l=true:=by
  unfold uK at h ⊢;rw[List.any_eq_true] at h ⊢;obtain⟨x,hx,hp⟩:=h;exact⟨x,cP hx,hp⟩
def Gf:List UInt8:=[124,38,59,60,62,40,41]
def Cl:List UInt8:=[92,39,34,96,36]
def yP:List UInt8:=[65,66,67,68,69,70,71,72,73,74,75,76,77,78,79,80,81,82,83,84,85,86,87,88,89,90,97,98,99,100,101,102,103,104,105,106,107,108,109,110,111,112,113,114,115,116,117,118,119,120,121,122,95]
def Cm:List UInt8:=[48,49,50,51,52,53,54,55,56,57]
def CB (c:UInt8):Int:=
  if c.toNat=32∨c.toNat=9 then 1 else if c.toNat=10 then 2 else if uK c Gf=true then 3 else if uK c Cl=true then 4 else if uK c yP=true then 5 else if uK c Cm=true then 6 else 0
theorem Hf (c:UInt8):CB c=fp c:=by
  have h:=fm (fun c=>CB c==fp c) (by decide +kernel) c;simpa using h
def gj (c:UInt8):List UInt8:=if c.toNat=92 then [88] else if c.toNat=36 then [76] else if c.toNat=96 then [66] else []
abbrev fg:=List (UInt8×Int)
variable {g:Bool} {p q:Int} {PB:Int→Prop} {m i j:Nat} {stop:Nat→Bool} {st st' F G:fg} {α β:Type} {d:UInt8} {y:UInt8×Int} (r:fg) (fs:List (Int×Int)) (f:Bool) (a:Int) (l:List UInt8) (P:List Int) (c b:UInt8) (k:Nat)
def rS (st:fg):List UInt8:=(st.map (·.1)).reverse
def rP (st:fg):List Int:=(st.map (·.2)).reverse
theorem kn (st:fg):(rS st).length=st.length:=by simp[rS]
theorem wu (st:fg):(rP st).length=st.length:=by simp[rP]
theorem oB (p:Int) (st:fg):rS ((c,p)::st)=rS st++[c]:=by simp[rS]
theorem ww (p:Int) (st:fg):rP ((c,p)::st)=rP st++[p]:=by simp[rP]
theorem BZ (p:Int) (st:fg) (n:Nat) (h:st.length=n):(rS ((c,p)::st)).take n=rS st:=by rw[oB,←h,←kn st,List.take_left]
theorem I2 (p:Int) (st:fg) (n:Nat) (h:st.length=n):(rP ((c,p)::st)).take n=rP st:=by rw[ww,←h,←wu st,List.take_left]
def dU (st:fg) (f:Bool) (c b:UInt8) (at_:Int):fg×Bool:=
  if b.toNat=92 then ((88,at_)::st,f)
  else if b.toNat=39 then ((83,at_)::st,false)
  else if b.toNat=34 then ((68,at_)::st,false)
  else if b.toNat=96 then ((66,at_)::st,false)
  else if b.toNat=36 then ((76,at_)::st,false)
  else if b.toNat=35∧f=true then ((35,at_)::st,f)
  else if b.toNat=40 then (if c.toNat=84 then (st,true) else ((80,at_)::st,true))
  else if b.toNat=41 then (if c.toNat=84 then (st,true) else (st.tail,decide (c.toNat=80)))
  else (st,gU b)
def dK (st:fg) (f:Bool) (c b:UInt8) (at_:Int):fg×Bool:=
  if c.toNat=84∨c.toNat=67∨c.toNat=80 then dU st f c b at_
  else if c.toNat=88 then (st.tail,if b.toNat=10 then f else false)
  else if c.toNat=83 then (if b.toNat=39 then (st.tail,f) else (st,f))
  else if c.toNat=35 then (if b.toNat=10 then (st.tail,true) else (st,f))
  else if c.toNat=66 then (if b.toNat=96 then (st.tail,f) else if b.toNat=92 then ((88,at_)::st,f) else (st,f))
  else if b.toNat=92 then ((88,at_)::st,f)
  else if b.toNat=36 then ((76,at_)::st,f)
  else if b.toNat=96 then ((66,at_)::st,f)
  else if c.toNat=65∨c.toNat=82 then
    (if b.toNat=40 then ((82,at_)::st,f) else if b.toNat=41∧c.toNat=82 then (st.tail,f)
     else if b.toNat=41 then (match st with|[]=>[]|(_,p)::r=>(69,p)::r,f) else (st,f))
  else if c.toNat=68 then (if b.toNat=34 then (st.tail,f) else (st,f))
  else if b.toNat=34 then ((68,at_)::st,f)
  else if b.toNat=125 then (st.tail,f)
  else if b.toNat=39∧c.toNat=86 then ((83,at_)::st,f)
  else (st,f)
def ez (st:fg) (f:Bool) (b:UInt8) (at_:Int):fg×Bool:=
  match st with
  | []=>([],f)
  | (c,p)::r=>
    if c.toNat=76 then
      (if b.toNat=40 then ((79,p)::r,true)
       else if b.toNat=123 then
         (match r with
          | (d,_)::_=>if d.toNat=68∨d.toNat=73 then ((73,p)::r,f) else ((86,p)::r,f)
          | []=>((86,p)::r,f))
       else if b.toNat=36 then (r,f)
       else match r with
          | (d,_)::_=>dK r f d b at_
          | []=>(r,f))
    else if c.toNat=79 then
      (if b.toNat=40 then ((65,p)::r,false) else dK ((67,p)::r) f 67 b at_)
    else if c.toNat=69 then
      (if b.toNat=41 then (r,f) else dK ((65,p)::r) f 65 b at_)
    else dK st f c b at_
def mc:fg→Prop
  | []=>False
  | [(c,_)]=>c=84
  | (c,_)::r=>c≠84∧mc r
theorem mc.ne (h:mc st):st≠[]:=by rintro rfl;exact h
theorem mc.single {c:UInt8} (h:mc [(c,p)]):c=84:=h
theorem mc.cons {c:UInt8} {p:Int} {st:fg} (hc:c≠84) (h:mc st):mc ((c,p)::st):=by
  cases st with
  | nil=>exact h.elim
  | cons x r=>exact⟨hc,h⟩
theorem mc.tail {c:UInt8} (hc:c≠84) (h:mc ((c,p)::st)):mc st:=by
  cases st with
  | nil=>exact(hc h).elim
  | cons x r=>exact h.2
theorem mc.turn {c:UInt8} (hc:c≠84) (hd:d≠84) (h:mc ((c,p)::st)):mc ((d,q)::st):=(h.tail hc).cons hd
theorem mc.turn' {c:UInt8} (hc:c.toNat≠84) (hd:d≠84) (h:mc ((c,p)::st)):mc ((d,q)::st):=h.turn (fun e=>hc (by rw[e];rfl)) hd
theorem mc.tail' {c:UInt8} (hc:c.toNat≠84) (h:mc ((c,p)::st)):mc st:=h.tail (fun e=>hc (by rw[e];rfl))
theorem ej {α:Type} (P:α→Prop) {c:Prop} [Decidable c] {a b:α} (h1:c→P a) (h2:¬c→P b):P (if c then a else b):=by
  by_cases h:c
  ·rw[aE h];exact h1 h
  ·rw[aB h];exact h2 h
theorem mU (p at_:Int) (h:mc ((c,p)::r)):mc (dK ((c,p)::r) f c b at_).1:=by
  unfold dK
  repeat' (refine ej (fun x:fg×Bool=>mc x.1) (fun _=>?_) (fun _=>?_))
  all_goals first
    | exact rProgram_bot _ _ _ _ _ _ h
    | exact h
    | exact h.cons (by decide)
    | exact h.tail' (by omega)
    | exact h.turn' (by omega) (by decide)
theorem vg (st:fg) (f:Bool) (b:UInt8) (at_:Int) (h:mc st):mc (ez st f b at_).1:=by
  match st,h with
  | (c,p)::r,h=>
    unfold ez;refine ej (fun x:fg×Bool=>mc x.1) (fun hc=>?_) (fun _=>?_)
    ·have ht:=h.tail' (by omega);refine ej (fun x:fg×Bool=>mc x.1) (fun _=>h.turn' (by omega) (by decide)) (fun _=>?_);refine ej (fun x:fg×Bool=>mc x.1) (fun _=>?_) (fun _=>?_)
     ·cases r with
      | nil=>exact h.turn' (by omega) (by decide)
      | cons x r=>
        obtain⟨d,q⟩:=x;exact ej (fun x:fg×Bool=>mc x.1) (fun _=>h.turn' (by omega) (by decide)) (fun _=>h.turn' (by omega) (by decide))
     ·refine ej (fun x:fg×Bool=>mc x.1) (fun _=>ht) (fun _=>?_)
      cases r with
      | nil=>exact ht
      | cons x r=>obtain⟨d,q⟩:=x;exact mU _ _ _ _ _ _ ht
    ·refine ej (fun x:fg×Bool=>mc x.1) (fun _=>?_) (fun _=>?_)
     ·exact ej (fun x:fg×Bool=>mc x.1) (fun _=>h.turn' (by omega) (by decide)) (fun _=>mU _ _ _ _ _ _ (h.turn' (by omega) (by decide)))
     ·refine ej (fun x:fg×Bool=>mc x.1) (fun _=>?_) (fun _=>mU _ _ _ _ _ _ h);exact ej (fun x:fg×Bool=>mc x.1) (fun _=>h.tail' (by omega)) (fun _=>mU _ _ _ _ _ _ (h.turn' (by omega) (by decide)))
theorem ws (st:fg) (f:Bool) (c b:UInt8) (at_:Int):(dU st f c b at_).1.length≤st.length+1:=by
  unfold dU
  repeat' (refine ej (fun x:fg×Bool=>x.1.length≤st.length+1) (fun _=>?_) (fun _=>?_))
  all_goals (simp;try omega)
theorem mT (st:fg) (f:Bool) (c b:UInt8) (at_:Int):(dK st f c b at_).1.length≤st.length+1:=by
  have h0:=ws st f c b at_;unfold dK
  repeat' (refine ej (fun x:fg×Bool=>x.1.length≤st.length+1) (fun _=>?_) (fun _=>?_))
  all_goals first
    | exact h0
    | (simp;done)
    | (simp;omega)
    | (cases st<;>simp)
theorem ve (st:fg) (f:Bool) (b:UInt8) (at_:Int):(ez st f b at_).1.length≤st.length+1:=by
  match st with
  | []=>simp[ez]
  | (c,p)::r=>
    have h1:=mT ((c,p)::r) f c b at_;have h2:=mT ((67,p)::r) f 67 b at_;have h3:=mT ((65,p)::r) f 65 b at_;unfold ez;refine ej (fun x:fg×Bool=>x.1.length≤r.length+1+1) (fun hc=>?_) (fun _=>?_)
    ·refine ej (fun x:fg×Bool=>x.1.length≤r.length+1+1) (fun _=>by simp) (fun _=>?_);refine ej (fun x:fg×Bool=>x.1.length≤r.length+1+1) (fun _=>?_) (fun _=>?_)
     ·cases r with
      | nil=>simp
      | cons x r=>exact ej (fun x:fg×Bool=>x.1.length≤_) (fun _=>by simp) (fun _=>by simp)
     ·refine ej (fun x:fg×Bool=>x.1.length≤r.length+1+1) (fun _=>by simp;omega) (fun _=>?_)
      cases r with
      | nil=>simp
      | cons x r=>exact Nat.le_succ_of_le (mT _ _ _ _ _)
    ·refine ej (fun x:fg×Bool=>x.1.length≤r.length+1+1) (fun _=>?_) (fun _=>?_)
     ·exact ej (fun x:fg×Bool=>x.1.length≤_) (fun _=>by simp) (fun _=>h2)
     ·refine ej (fun x:fg×Bool=>x.1.length≤r.length+1+1) (fun _=>?_) (fun _=>h1);exact ej (fun x:fg×Bool=>x.1.length≤_) (fun _=>by simp;omega) (fun _=>h3)
def fY (l:List UInt8):Nat→fg×Bool
  | 0=>([(84,0)],true)
  | k+1=>ez (fY l k).1 (fY l k).2 (l.getD k 0) k
theorem kK (l:List UInt8):∀k,mc (fY l k).1
  | 0=>rfl
  | k+1=>vg _ _ _ _ (kK l k)
theorem jj (l:List UInt8):∀k,(fY l k).1.length≤k+1
  | 0=>by simp[fY]
  | k+1=>by
    have h1:=ve (fY l k).1 (fY l k).2 (l.getD k 0) k;have h2:=jj l k;simp only[fY];omega
def zH (c:UInt8):Bool:=[84,67,80,66,68,86,73,65,82].contains c
def uI (c:UInt8):Bool:=[84,67,80,79,83,68,66,86,73,65,82,69,76,88,35].contains c
theorem sQ (h:zH c=true):uI c=true:=by
  have:=fm (fun c => !zH c||uI c) (by decide +kernel) c
  simpa [h] using this
theorem Lv (hv:uI c=true) (h1:c.toNat≠79) (h2:c.toNat≠69) (h3:c.toNat≠76) (h4:c.toNat≠88) (h5:c.toNat≠83) (h6:c.toNat≠35):zH c=true:=by
  have:=fm (fun c => !uI c||c.toNat==79||c.toNat==69||c.toNat==76||c.toNat==88||c.toNat==83||c.toNat==35||zH c) (by decide +kernel) c
  simpa [hv,h1,h2,h3,h4,h5,h6] using this
def ow:fg→Prop
  | []=>True
  | (c,_)::r=>uI c=true∧∀y∈r,zH y.1=true
theorem ow.of_mid {r:fg} (h:∀y∈r,zH y.1=true):ow r:=by
  cases r with
  | nil=>trivial
  | cons x r=>exact⟨sQ _ (h x (by simp)),fun y hy=>h y (by simp[hy])⟩
theorem ow.push {c:UInt8} {r:fg} (hd:uI d=true) (hc:zH c=true) (h:∀y∈r,zH y.1=true):ow ((d,q)::(c,p)::r):=
  ⟨hd,fun y hy=>by
    rcases bR.1 hy with rfl|hy
    ·exact hc
    ·exact h y hy⟩
theorem ow.turn {r:fg} (hd:uI d=true) (h:∀y∈r,zH y.1=true):ow ((d,q)::r):=⟨hd,h⟩
theorem MX (h:c.toNat=66):zH c=true:=by
  have:=fm (fun c => !(c.toNat==66)||zH c) (by decide +kernel) c
  simpa [h] using this
theorem qj (p at_:Int) (hv:uI c=true) (h79:c.toNat≠79) (h69:c.toNat≠69) (h76:c.toNat≠76) (h:∀y∈r,zH y.1=true):ow (dK ((c,p)::r) f c b at_).1:=by
  unfold dK
  repeat' (refine ej (fun x:fg×Bool=>ow x.1) (fun _=>?_) (fun _=>?_))
  all_goals first
    | exact rProgram_v _ _ _ _ _ _ hv (mid3 c (by omega)) h
    | exact⟨hv,h⟩
    | exact ow.of_mid h
    | exact ow.turn (by decide) h
    | exact ow.push (by decide) (MX c (by omega)) h
    | exact ow.push (by decide) (Lv c hv h79 h69 h76 (by omega) (by omega) (by omega)) h
theorem F3 (d:UInt8) (h:zH d=true):d.toNat≠79∧d.toNat≠69∧d.toNat≠76:=by
  have:=fm (fun c => !zH c||(c.toNat != 79&&c.toNat != 69&&c.toNat != 76)) (by decide +kernel) d
  simpa [h,and_assoc] using this
theorem IX (st:fg) (f:Bool) (b:UInt8) (at_:Int) (h:ow st):ow (ez st f b at_).1:=by
  match st,h with
  | [],_=>trivial
  | (c,p)::r,⟨hv,h⟩=>
    unfold ez;refine ej (fun x:fg×Bool=>ow x.1) (fun hc=>?_) (fun _=>?_)
    ·refine ej (fun x:fg×Bool=>ow x.1) (fun _=>ow.turn (by decide) h) (fun _=>?_);refine ej (fun x:fg×Bool=>ow x.1) (fun _=>?_) (fun _=>?_)
     ·cases r with
      | nil=>exact ow.turn (by decide) h
      | cons x r=>obtain⟨d,q⟩:=x;exact ej (fun x:fg×Bool=>ow x.1) (fun _=>ow.turn (by decide) h) (fun _=>ow.turn (by decide) h)
     ·refine ej (fun x:fg×Bool=>ow x.1) (fun _=>ow.of_mid h) (fun _=>?_)
      cases r with
      | nil=>trivial
      | cons x r=>
        obtain⟨d,q⟩:=x;have hd:=h (d,q) (by simp);obtain⟨h1,h2,h3⟩:=F3 d hd;exact qj _ _ _ _ _ _ (sQ _ hd) h1 h2 h3 (fun y hy=>h y (by simp[hy]))
    ·refine ej (fun x:fg×Bool=>ow x.1) (fun _=>?_) (fun _=>?_)
     ·exact ej (fun x:fg×Bool=>ow x.1) (fun _=>ow.turn (by decide) h) (fun _=>qj _ _ _ _ _ _ (by decide) (by decide) (by decide) (by decide) h)
     ·refine ej (fun x:fg×Bool=>ow x.1) (fun _=>?_) (fun _=>qj _ _ _ _ _ _ hv (by omega) (by omega) (by omega) h);exact ej (fun x:fg×Bool=>ow x.1) (fun _=>ow.of_mid h) (fun _=>qj _ _ _ _ _ _ (by decide) (by decide) (by decide) (by decide) h)
theorem sf (l:List UInt8):∀k,ow (fY l k).1
  | 0=>⟨by decide,by simp⟩
  | k+1=>IX _ _ _ _ (sf l k)
def nA (st:fg) (c:UInt8):Bool:=
  gU c&&(match st with
    | [_]=>true
    | [(d,_),_]=>decide (d.toNat=76)&&decide (c.toNat≠40)
    | _=>false)
def ny (stop:Nat→Bool):Nat→Nat→Nat
  | 0,k=>k
  | m+1,k=>if stop k=true then k else ny stop m (k+1)
theorem rN {k:Nat} (h:stop k=true):ny stop m k=k:=by
  cases m with
  | zero=>rfl
  | succ m=>simp[ny,h]
theorem sX {k:Nat} (h:stop k=false) (hm:0<m):ny stop m k=ny stop (m-1) (k+1):=by
  cases m with
  | zero=>omega
  | succ m=>simp[ny,h]
abbrev Lt (st:fg):List UInt8:=st.map (·.1)
def LR (x y:fg×Bool):Prop:=Lt x.1=Lt y.1∧x.2=y.2
theorem jO {α:Type} (R:α→α→Prop) {c:Prop} [Decidable c] {a b a' b':α} (h1:c→R a a') (h2:¬c→R b b'):R (if c then a else b) (if c then a' else b'):=by
  by_cases h:c
  ·rw[aE h,aE h];exact h1 h
  ·rw[aB h,aB h];exact h2 h
theorem Ki (h:Lt st=Lt st'):Lt st.tail=Lt st'.tail:=by
  simp only[Lt,List.map_tail];exact congrArg List.tail h
theorem qo (h:Lt st=Lt st') (f:Bool) (c b:UInt8) (p q:Int):LR (dK st f c b p) (dK st' f c b q):=by
  unfold dK
  repeat' (refine jO LR (fun _=>?_) (fun _=>?_))
  all_goals first
    | exact rProgram_l h _ _ _ _ _
    | exact⟨h,rfl⟩
    | exact⟨Ki h,rfl⟩
    | exact⟨congrArg (List.cons _) h,rfl⟩
    | (refine⟨?_,rfl⟩
       cases st<;>cases st'<;>simp_all [Lt])
theorem IZ (h:Lt st=Lt st') (f:Bool) (b:UInt8) (p q:Int):LR (ez st f b p) (ez st' f b q):=by
  match st,st',h with
  | [],[],_=>exact⟨rfl,rfl⟩
  | [],(_::_),h=>simp[Lt] at h
  | (_::_),[],h=>simp[Lt] at h
  | (c,x)::r,(c',x')::r',h=>
    simp only[Lt,cE,List.cons.injEq] at h;obtain⟨rfl,hr⟩:=h;have hc:Lt ((c,x)::r)=Lt ((c,x')::r'):=by simp[Lt,hr]
    unfold ez;refine jO LR (fun _=>?_) (fun _=>?_)
    ·refine jO LR (fun _=>⟨by simp[Lt,hr],rfl⟩) (fun _=>?_);refine jO LR (fun _=>?_) (fun _=>?_)
     ·match r,r',hr with
      | [],[],_=>exact⟨rfl,rfl⟩
      | [],(_::_),hr=>simp at hr
      | (_::_),[],hr=>simp at hr
      | (d,y)::r2,(d',y')::r2',hr=>
        simp only[cE,List.cons.injEq] at hr;obtain⟨rfl,hr⟩:=hr;exact jO LR (fun _=>⟨by simp[Lt,hr],rfl⟩) (fun _=>⟨by simp[Lt,hr],rfl⟩)
     ·refine jO LR (fun _=>⟨hr,rfl⟩) (fun _=>?_)
      match r,r',hr with
      | [],[],_=>exact⟨rfl,rfl⟩
      | [],(_::_),hr=>simp at hr
      | (_::_),[],hr=>simp at hr
      | (d,y)::r2,(d',y')::r2',hr=>
        have hr':=hr;simp only[cE,List.cons.injEq] at hr;obtain⟨rfl,_⟩:=hr;exact qo hr' _ _ _ _ _
    ·refine jO LR (fun _=>?_) (fun _=>?_)
     ·exact jO LR (fun _=>⟨by simp[Lt,hr],rfl⟩) (fun _=>qo (by simp[Lt,hr]) _ _ _ _ _)
     ·refine jO LR (fun _=>?_) (fun _=>qo hc _ _ _ _ _);exact jO LR (fun _=>⟨hr,rfl⟩) (fun _=>qo (by simp[Lt,hr]) _ _ _ _ _)
def iE (l:List UInt8) (a:Nat):Nat→fg×Bool
  | 0=>([(84,0)],true)
  | k+1=>ez (iE l a k).1 (iE l a k).2 (l.getD (a+k) 0) ((a+k:Nat):Int)
theorem B4 (l:List UInt8) (a:Nat):∀k,LR (iE l a k) (fY (l.drop a) k)
  | 0=>⟨rfl,rfl⟩
  | k+1=>by
    have ih:=B4 l a k;have e:(l.drop a).getD k 0=l.getD (a+k) 0:=by
      rw[aF,aF,bZ]
    simp only[iE,fY];rw[e,←ih.2];exact IZ ih.1 _ _ _ _
theorem vj (l:List UInt8) (a:Nat):∀k,mc (iE l a k).1
  | 0=>rfl
  | k+1=>vg _ _ _ _ (vj l a k)
theorem vi (l:List UInt8) (a:Nat):∀k,(iE l a k).1.length≤k+1
  | 0=>by simp[iE]
  | k+1=>by
    have h1:=ve (iE l a k).1 (iE l a k).2 (l.getD (a+k) 0) ((a+k:Nat):Int);have h2:=vi l a k;simp only[iE];omega
theorem LQ (h:Lt st=Lt st') (c:UInt8):nA st c=nA st' c:=by
  unfold nA;congr 1
  match st,st',h with
  | [],[],_=>rfl
  | [_],[_],_=>rfl
  | [(d,_),_],[(d',_),_],h=>
    simp[Lt] at h;simp[h.1]
  | (_::_::_::_),(_::_::_::_),_=>rfl
  | [],(_::_),h=>simp[Lt] at h
  | (_::_),[],h=>simp[Lt] at h
  | [_],(_::_::_),h=>simp[Lt] at h
  | (_::_::_),[_],h=>simp[Lt] at h
  | [_,_],(_::_::_::_),h=>simp[Lt] at h
  | (_::_::_::_),[_,_],h=>simp[Lt] at h
def NM (c:UInt8):Prop:=c.toNat=84∨c.toNat=67∨c.toNat=80
def Hd (st:fg):Prop:=∀c p r,st=(c,p)::r→NM c
def FO (st:fg):Prop:=∀c p r,st=(c,p)::r→NM c∨c.toNat=79∨((c.toNat=88∨c.toNat=35)∧Hd r)
theorem FO.x {c:UInt8} {r:fg} (h:c.toNat=88∨c.toNat=35) (hr:Hd r):FO ((c,p)::r):=by
  rintro _ _ _ ⟨rfl,rfl⟩;exact .inr (.inr ⟨h,hr⟩)
def BI:fg→Prop
  | []=>False
  | [(c,_)]=>c.toNat=79∨c.toNat=67∨c.toNat=65
  | _::y::r=>BI (y::r)
theorem BI.ne {x:fg} (h:BI x):x≠[]:=by rintro rfl;exact h
theorem BI.one {c:UInt8} (h:c.toNat=79∨c.toNat=67∨c.toNat=65):BI [(c,p)]:=h
def Mp (PB:Int→Prop) (x:fg×Bool):Prop:=∀y∈x.1,PB y.2
theorem Mp.cons {PB:Int→Prop} {c:UInt8} {q:Int} {st:fg} {f g:Bool} (h:Mp PB (st,f)) (ha:PB q):Mp PB ((c,q)::st,g):=by
  intro y hy;rcases bR.1 hy with rfl|hy
  ·exact ha
  ·exact h y hy
theorem Mp.any {f:Bool} (h:Mp PB (st,f)):Mp PB (st,g):=h
abbrev eV (st:fg):List Int:=st.map (·.2)
def oV (ps:List Int) (a:Int) (x:fg×Bool):Prop:=∃m,eV x.1=ps.drop m∨eV x.1=a::ps.drop m
theorem oV.same {f:Bool} {a:Int} (h:eV st'=eV st):oV (eV st) a (st',f):=⟨0,.inl h⟩
theorem oV.push {c:UInt8} {f:Bool} {a:Int}:oV (eV st) a ((c,a)::st,f):=⟨0,.inr rfl⟩
theorem oV.tail {f:Bool} {a:Int}:oV (eV st) a (st.tail,f):=⟨1,.inl (by simp[eV,List.drop_one,List.map_tail])⟩
theorem oV.deep {a:Int} {x:fg×Bool} (h:oV (eV st) a x):oV (eV (y::st)) a x:=by
  obtain⟨m,h⟩:=h;exact⟨m+1,by simpa [eV] using h⟩
theorem ql (st:fg) (f:Bool) (c b:UInt8) (a:Int):oV (eV st) a (dK st f c b a):=by
  unfold dK
  repeat' (refine ej (oV (eV st) a) (fun _=>?_) (fun _=>?_))
  all_goals first
    | exact rProgram_q _ _ _ _ _
    | exact oV.push
    | exact oV.tail
    | exact oV.same rfl
    | (refine oV.same ?_;cases st<;>rfl)
theorem IY (st:fg) (f:Bool) (b:UInt8) (a:Int):oV (eV st) a (ez st f b a):=by
  match st with
  | []=>exact oV.same rfl
  | (c,p)::r=>
    unfold ez;refine ej (oV (eV ((c,p)::r)) a) (fun _=>?_) (fun _=>?_)
    ·refine ej (oV (eV ((c,p)::r)) a) (fun _=>oV.same rfl) (fun _=>?_);refine ej (oV (eV ((c,p)::r)) a) (fun _=>?_) (fun _=>?_)
     ·cases r with
      | nil=>exact oV.same rfl
      | cons y r=>exact ej (oV (eV ((c,p)::y::r)) a) (fun _=>oV.same rfl) (fun _=>oV.same rfl)
     ·refine ej (oV (eV ((c,p)::r)) a) (fun _=>(oV.same rfl).deep) (fun _=>?_)
      cases r with
      | nil=>exact(oV.same rfl).deep
      | cons y r=>exact(ql _ _ _ _ _).deep
    ·refine ej (oV (eV ((c,p)::r)) a) (fun _=>?_) (fun _=>?_)
     ·exact ej (oV (eV ((c,p)::r)) a) (fun _=>oV.same rfl) (fun _=>ql ((67,p)::r) _ _ _ _)
     ·refine ej (oV (eV ((c,p)::r)) a) (fun _=>?_) (fun _=>ql _ _ _ _ _);exact ej (oV (eV ((c,p)::r)) a) (fun _=>(oV.same rfl).deep) (fun _=>ql ((65,p)::r) _ _ _ _)
def XT (l:List UInt8) (k:Nat):fg:=(fY l k).1.dropLast
def FT (l:List UInt8) (k:Nat):fg:=(XT l k).reverse
theorem DT (h:mc st):∃p,st=st.dropLast++[(84,p)]:=by
  induction st with
  | nil=>exact h.elim
  | cons x r ih=>
    cases r with
    | nil=>obtain⟨c,p⟩:=x;obtain rfl:c=84:=h;exact⟨p,rfl⟩
    | cons y r=>
      obtain⟨p,hp⟩:=ih h.2;exact⟨p,by rw[List.dropLast_cons_cons,bv,←hp]⟩
def sA (x:fg×Bool):Prop:=∀y∈x.1,y.1=84→y.2=0
theorem sA.cons {c:UInt8} {q:Int} {st:fg} {f g:Bool} (h:sA (st,f)) (hc:c≠84):sA ((c,q)::st,g):=by
  intro y hy e;rcases bR.1 hy with rfl|hy
  ·exact absurd e hc
  ·exact h y hy e
theorem sA.tail {f:Bool} (h:sA (st,f)):sA (st.tail,g):=fun y hy=>h y (List.mem_of_mem_tail hy)
theorem sA.any {f:Bool} (h:sA (st,f)):sA (st,g):=h
theorem qi (st:fg) (f:Bool) (c b:UInt8) (a:Int) (h:sA (st,f)):sA (dK st f c b a):=by
  unfold dK
  repeat' (refine ej sA (fun _=>?_) (fun _=>?_))
  all_goals first
    | exact rProgram_z st f c b a h
    | exact h.any
    | exact h.cons (by decide)
    | exact h.tail
    | (cases st with
       | nil=>exact h.any
       | cons y r=>exact sA.cons (f:=f) (fun z hz=>h z (cj _ hz)) (by decide))
theorem IW (st:fg) (f:Bool) (b:UInt8) (a:Int) (h:sA (st,f)):sA (ez st f b a):=by
  match st,h with
  | [],h=>exact h
  | (c,p)::r,h=>
    have hr:sA (r,f):=fun z hz=>h z (cj _ hz)
    unfold ez;refine ej sA (fun _=>?_) (fun _=>?_)
    ·refine ej sA (fun _=>hr.cons (by decide)) (fun _=>?_);refine ej sA (fun _=>?_) (fun _=>?_)
     ·cases r with
      | nil=>exact hr.cons (by decide)
      | cons y r=>exact ej sA (fun _=>hr.cons (by decide)) (fun _=>hr.cons (by decide))
     ·refine ej sA (fun _=>hr) (fun _=>?_)
      cases r with
      | nil=>exact hr
      | cons y r=>exact qi _ _ _ _ _ hr
    ·refine ej sA (fun _=>?_) (fun _=>?_)
     ·exact ej sA (fun _=>hr.cons (by decide)) (fun _=>qi _ _ _ _ _ (hr.cons (by decide)))
     ·refine ej sA (fun _=>?_) (fun _=>qi _ _ _ _ _ h);exact ej sA (fun _=>hr) (fun _=>qi _ _ _ _ _ (hr.cons (by decide)))
theorem Km (l:List UInt8):∀k:Nat,sA (fY l k)
  | 0=>by intro y hy _;simp[fY] at hy;rw[hy]
  | k+1=>IW _ _ _ _ (Km l k)
theorem jD:(fY l k).1=XT l k++[(84,0)]:=by
  obtain⟨p,hp⟩:=DT (kK l k);have h0:p=0:=Km l k (84,p) (by rw[hp];simp) rfl;subst h0;exact hp
theorem Ie:(fY l k).1.length=(XT l k).length+1:=by rw[jD];simp
theorem sI:(fY l k).1.reverse=(84,0)::FT l k:=by rw[jD];simp[FT]
theorem CF:∃m,eV (XT l (k+1))=(eV (XT l k)).drop m∨eV (XT l (k+1))=(k:Int)::(eV (XT l k)).drop m:=by
  obtain⟨m,h⟩:=IY (fY l k).1 (fY l k).2 (l.getD k 0) k;have h':eV (fY l (k+1)).1=(eV (fY l k).1).drop m∨eV (fY l (k+1)).1=(k:Int)::(eV (fY l k).1).drop m:=h;rw[jD l (k+1),jD l k] at h';simp only[eV,cD,cE,List.map_nil] at h' ⊢;generalize (XT l (k+1)).map (·.2)=A at h' ⊢;generalize (XT l k).map (·.2)=B at h' ⊢;by_cases hm:m≤B.length
  ·rw[List.drop_append_of_le_length hm] at h';refine⟨m,h'.imp (fun e=>(List.append_left_inj _).1 e) (fun e=>?_)⟩;rw[←bv] at e
   exact(List.append_left_inj _).1 e
  ·rw[List.drop_eq_nil_of_le (by simp;omega)] at h';refine⟨B.length,.inl ?_⟩;rcases h' with e|e
   ·simp at e
   ·cases A with
    | nil=>simp
    | cons x A=>have:=congrArg List.length e;simp at this
theorem xi (l:List UInt8):∀k:Nat,(eV (XT l k)).Pairwise (· > ·)∧∀p∈eV (XT l k),0≤p∧p<(k:Int)
  | 0=>⟨List.Pairwise.nil,by intro p hp;simp[XT,fY,eV] at hp⟩
  | k+1=>by
    obtain⟨h1,h2⟩:=xi l k;obtain⟨m,h|h⟩:=CF l k
    ·rw[h];exact⟨h1.sublist (List.drop_sublist _ _),fun p hp=>by have:=h2 p (List.mem_of_mem_drop hp);omega⟩
    ·rw[h];refine⟨List.Pairwise.cons (fun p hp=>by have:=h2 p (List.mem_of_mem_drop hp);show (k:Int)>p;omega) (h1.sublist (List.drop_sublist _ _)),fun p hp=>?_⟩;rcases bR.1 hp with rfl|hp
     ·omega
     ·have:=h2 p (List.mem_of_mem_drop hp);omega
theorem oW:(eV (FT l k)).Pairwise (· < ·)∧∀p∈eV (FT l k),0≤p∧p<(k:Int):=by
  obtain⟨h1,h2⟩:=xi l k;have e:eV (FT l k)=(eV (XT l k)).reverse:=by simp[eV,FT]
  rw[e];exact⟨List.pairwise_reverse.2 h1,fun p hp=>h2 p (List.mem_reverse.1 hp)⟩
theorem Kj:∃j,j≤(FT l k).length∧(eV (FT l (k+1))=(eV (FT l k)).take j∨eV (FT l (k+1))=(eV (FT l k)).take j++[(k:Int)]):=by
  obtain⟨m,h⟩:=CF l k;have e:∀k,eV (FT l k)=(eV (XT l k)).reverse:=by intro k;simp[eV,FT]
  refine⟨(FT l k).length-m,by omega,?_⟩;rw[e,e];have hl:(FT l k).length=(eV (XT l k)).length:=by simp[FT,eV]
  rw[hl,←List.reverse_drop];rcases h with h|h
  ·left;rw[h]
  ·right;rw[h];simp
structure fh where
  mode:Int
  fr:Int
  to:Int
  up:Int
  op:Bool
def dP:fh:=⟨0,0,0,0,false⟩
def jZ (m:Int):Int:=if m=3 then 1 else if m=11 then 9 else m
def sZ (c:UInt8):Int:=jZ (eG c)
abbrev ib (l:List fh):List Int:=l.map (·.fr)
def ii (l:List fh) (p:Int):Nat:=(ib l).idxOf p
def qT (F:fg) (p:Int):Option UInt8:=(F.find? (fun x=>x.2==p)).map (·.1)
def sC (F:fg) (k1:Int) (q:fh):fh:=
  if q.op=true then (match qT F q.fr with
    | some c=>{q with mode:=sZ c}
    | none=>{q with to:=k1,op:=false})
  else q
def D5 (F:fg) (l:List fh):Int:=match F.dropLast.getLast? with
  | none => -1
  | some y=>(ii l y.2:Int)
def mZ (F:fg) (k:Int) (l:List fh):List fh:=match F.getLast? with
  | none=>[]
  | some y=>if y.2=k then [⟨sZ y.1,k,0,D5 F l,true⟩] else []
def eM (l:List UInt8):Nat→List fh
  | 0=>[]
  | k+1=>(eM l k).map (sC (FT l (k+1)) ((k:Int)+1))++mZ (FT l (k+1)) k (eM l k)
theorem zT (F:fg) (k1:Int) (q:fh):(sC F k1 q).fr=q.fr:=by
  unfold sC;split
  ·split<;>rfl
  ·rfl
theorem Cr (F:fg) (k1:Int) (l:List fh):ib (l.map (sC F k1))=ib l:=by
  simp only[ib,List.map_map];exact cK fun q _=>zT F k1 q
theorem ut (h:p∈eV F):∃c,qT F p=some c∧(c,p)∈F:=by
  obtain⟨y,hy,he⟩:=cH.1 h
  cases hf:F.find? (fun x=>x.2==p) with
  | none=>have:=dG.1 hf y hy;simp[he] at this
  | some z=>
    have h1:=List.find?_some hf;have h2:=List.mem_of_find?_eq_some hf;simp at h1;obtain⟨c,q⟩:=z;simp at h1;subst h1;exact⟨c,by unfold qT;rw[hf];rfl,h2⟩
theorem pM (h:p∉eV F):qT F p=none:=by
  unfold qT;rw[dG.2]
  ·rfl
  ·intro y hy;simp only[aR];intro e;exact h (cH.2 ⟨y,hy,e⟩)
theorem oK {k:Int} {l:List fh} {c:UInt8} (h:F=G++[(c,k)]):mZ F k l=[⟨sZ c,k,0,D5 F l,true⟩]:=by
  subst h;simp[mZ]
theorem oL {k:Int} {l:List fh} (h:∀p∈eV F,p≠k):mZ F k l=[]:=by
  unfold mZ
  cases hg:F.getLast? with
  | none=>rfl
  | some y=>
    have:y∈F:=List.mem_of_getLast? hg
    simp only;rw[aB (h y.2 (cH.2 ⟨y,this,rfl⟩))]
theorem mQ:∃(j:Nat) (A B:fg),FT l (k+1)=A++B∧j≤(FT l k).length∧eV A=(eV (FT l k)).take j∧(B=[]∨∃c,B=[(c,(k:Int))]):=by
  obtain⟨j,hj,h⟩:=Kj l k;refine⟨j,(FT l (k+1)).take j,(FT l (k+1)).drop j,(dm _ _).symm,hj,?_,?_⟩
  ·rw[eV,List.map_take];rcases h with h|h
   ·rw[show (FT l (k+1)).map (·.2)=_ from h,List.take_take,Nat.min_self]
   ·rw[show (FT l (k+1)).map (·.2)=_ from h,List.take_append_of_le_length (by simp[eV];omega),List.take_take,Nat.min_self]
  ·have e:eV ((FT l (k+1)).drop j)=(eV (FT l (k+1))).drop j:=by simp[eV,List.map_drop]
   rcases h with h|h
   ·left
    rw[h,List.drop_take] at e;simpa [eV] using e
   ·right
    rw[h,List.drop_append,List.drop_take] at e;simp only[cg,eV,cC,cW hj,dc,List.take_zero,bS,dx] at e
    match hd:(FT l (k+1)).drop j,e with
    | [(c,p)],e=>simp at e;exact⟨c,by rw[e]⟩
structure CI (l:List UInt8) (k:Nat):Prop where
  rise:(ib (eM l k)).Pairwise (· < ·)
  bnd:∀p∈ib (eM l k),0≤p∧p<(k:Int)
  opn:∀q∈eM l k,(q.op=true↔q.fr∈eV (FT l k))
  sub:∀p∈eV (FT l k),p∈ib (eM l k)
theorem yZ (F:fg) (k:Int) (l:List fh):ib (mZ F k l)=[]∨ib (mZ F k l)=[k]:=by
  unfold mZ;split
  ·exact .inl rfl
  ·split
   ·exact .inr rfl
   ·exact .inl rfl
theorem jI:ib (eM l (k+1))=ib (eM l k)++ib (mZ (FT l (k+1)) k (eM l k)):=by
  simp only[eM,ib,cD];congr 1;exact Cr _ _ _
theorem KO {k1:Int} {q:fh}:(sC F k1 q).op=true↔q.op=true∧q.fr∈eV F:=by
  unfold sC;by_cases ho:q.op=true
  ·rw[aE ho];by_cases hm:q.fr∈eV F
   ·obtain⟨c,hc,_⟩:=ut hm;rw[hc];simp[ho,hm]
   ·rw[pM hm];simp[hm]
  ·rw[aB ho];simp[ho]
theorem mM (l:List UInt8):∀k,CI l k
  | 0=>⟨List.Pairwise.nil,by intro p hp;simp[eM,ib] at hp,by intro q hq;simp[eM] at hq,by intro p hp;simp[FT,XT,fY,eV] at hp⟩
  | k+1=>by
    have ih:=mM l k;obtain⟨j,A,B,hF,hj,hA,hB⟩:=mQ l k;have hr:=(oW l k);have hkP:(k:Int)∉eV (FT l k):=fun h=>by have:=hr.2 _ h;omega
    have hkC:(k:Int)∉ib (eM l k):=fun h=>by have:=ih.bnd _ h;omega
    have hAsub:∀p∈eV A,p∈eV (FT l k):=fun p hp=>by rw[hA] at hp;exact cP hp
    refine⟨?_,?_,?_,?_⟩
    ·rw[jI];rcases yZ (FT l (k+1)) k (eM l k) with h|h
     ·rw[h,bM];exact ih.rise
     ·rw[h,List.pairwise_append];exact⟨ih.rise,List.pairwise_singleton _ _,fun a ha b hb=>by simp at hb;subst hb;exact(ih.bnd a ha).2⟩
    ·intro p hp;rw[jI] at hp;rcases bN.1 hp with hp|hp
     ·have:=ih.bnd p hp;omega
     ·rcases yZ (FT l (k+1)) k (eM l k) with h|h
      ·rw[h] at hp;cases hp
      ·rw[h] at hp;simp at hp;omega
    ·intro q hq;simp only[eM] at hq;rcases bN.1 hq with hq|hq
     ·obtain⟨q0,hq0,rfl⟩:=cH.1 hq;rw[KO,zT,ih.opn q0 hq0];constructor
      ·exact fun h=>h.2
      ·intro h;refine⟨?_,h⟩;rw[hF,eV,cD] at h;rcases bN.1 h with h|h
       ·exact hAsub _ h
       ·exfalso;rcases hB with rfl|⟨c,rfl⟩
        ·cases h
        ·simp at h;exact hkC (h▸cH.2 ⟨q0,hq0,rfl⟩)
     ·rcases hB with rfl|⟨c,rfl⟩
      ·rw[oL] at hq
       ·cases hq
       ·intro p hp e;subst e;rw[hF,bM] at hp;exact hkP (hAsub _ hp)
      ·rw[oK hF] at hq;simp at hq;subst hq;simp[hF,eV]
    ·intro p hp;rw[jI];rw[hF,eV,cD] at hp;rcases bN.1 hp with hp|hp
     ·exact List.mem_append_left _ (ih.sub p (hAsub p hp))
     ·rcases hB with rfl|⟨c,rfl⟩
      ·cases hp
      ·rw[oK hF];exact List.mem_append_right _ (by simpa [ib] using hp)
def jh (fs:List (Int×Int)) (a:Int):Nat→List fh→List Nat→List fh×List Nat
  | 0,l,h=>(l,h)
  | n+1,l,h=>
    if n+1≤fs.length∧(fs.getD n (0,0)).2=(l.getD (h.getD n 0) dP).fr then (l,h)
    else jh fs a n (l.set (h.getD n 0) {l.getD (h.getD n 0) dP with to:=a+1,op:=false}) (h.take n)
def fG:List (Int×Int)→Nat→List fh→List Nat→List fh×List Nat
  | [],_,l,h=>(l,h)
  | f::fs,i,l,h=>
    if i<h.length then fG fs (i+1) (l.set (h.getD i 0) {l.getD (h.getD i 0) dP with mode:=jZ f.1}) h
    else fG fs (i+1) (l++[⟨jZ f.1,f.2,0,if 0<i then ((h.getD (i-1) 0:Nat):Int) else -1,true⟩]) (h++[l.length])
def Ak (fs:List (Int×Int)) (a:Int) (l:List fh) (h:List Nat):List fh×List Nat:=
  let x:=jh fs a h.length l h
  fG fs 0 x.1 x.2
theorem Bh {l:List fh} (h:p∈ib l):ii l p<l.length:=by
  have:=dw h
  simpa [ii,ib] using this
theorem Gm {l:List fh} (h:p∈ib l):(l.getD (ii l p) dP).fr=p:=by
  have hl:=Bh h;have h1:(ib l)[ii l p]'(by simpa [ib] using hl)=p:=List.getElem_idxOf (dw h);rw[aF,ax hl];simpa [ib] using h1
theorem EL {l:List fh} (hr:(ib l).Pairwise (· < ·)) (hi:i<l.length) (hj:j<l.length) (e:l[i].fr=l[j].fr):i=j:=by
  rcases Nat.lt_trichotomy i j with h|h|h
  ·have:=cL.1 hr i j (by simpa [ib] using hi) (by simpa [ib] using hj) h
   simp[ib] at this;omega
  ·exact h
  ·have:=cL.1 hr j i (by simpa [ib] using hj) (by simpa [ib] using hi) h
   simp[ib] at this;omega
theorem BP {l:List fh} (hr:(ib l).Pairwise (· < ·)) (hp:p∈ib l) (f:fh→fh):l.set (ii l p) (f (l.getD (ii l p) dP))=l.map fun q=>if q.fr=p then f q else q:=by
  have hl:=Bh hp;have hf:=Gm hp;apply List.ext_getElem (by simp);intro i h1 h2;have hi:i<l.length:=by simpa using h1
  rw[List.getElem_map];by_cases e:i=ii l p
  ·subst e;rw[List.getElem_set_self,aF,ax hl] at *;simp only[Option.getD_some] at hf ⊢;rw[aE hf]
  ·rw[List.getElem_set_ne (Ne.symm e)];rw[aB];intro e2;apply e;apply EL hr hi hl;rw[e2];rw[aF,ax hl] at hf;exact hf.symm
def pP (a:Int) (q:fh):fh:={q with to:=a+1,op:=false}
theorem Bl (P:fh→Prop) [DecidablePred P] (f:fh→fh) (hf:∀q,(f q).fr=q.fr) (l:List fh):ib (l.map fun q=>if P q then f q else q)=ib l:=by
  simp only[ib,List.map_map];refine cK fun q _=>?_
  simp only[Function.comp];split
  ·exact hf q
  ·rfl
theorem CZ (hP:P.Nodup) (j:Nat) (hj:j≤P.length) (hfs:fs.map (·.2)=P.take j∨∃k,k∉P∧fs.map (·.2)=P.take j++[k]) :
    ∀(n:Nat) (l:List fh),j≤n→n≤P.length→(ib l).Pairwise (· < ·)→(∀p∈P,p∈ib l) →
     jh fs a n l ((P.map (ii l)).take n)=(l.map (fun q=>if q.fr∈(P.take n).drop j then pP a q else q),(P.map (ii l)).take j):=by
  have hfl:fs.length=j∨(fs.length=j+1∧∃k,k∉P∧fs.map (·.2)=P.take j++[k]):=by
    rcases hfs with h|⟨k,hk,h⟩
    ·left;have:=congrArg List.length h;simp at this;omega
    ·right;refine⟨?_,k,hk,h⟩;have:=congrArg List.length h;simp at this;omega
  have hat:∀i,i<j→(fs.getD i (0,0)).2=P.getD i 0:=by
    intro i hi;have h1:(fs.map (·.2))[i]? = P[i]? := by
      rcases hfs with h|⟨k,hk,h⟩
      ·rw[h,cQ,aE hi]
      ·rw[h,aQ (by simp;omega),cQ,aE hi]
    rw[bq] at h1;rw[aF,aF,←h1]
    cases h2:fs[i]? with
    | none=>
      exfalso;rw[List.getElem?_eq_none_iff] at h2;omega
    | some x=>rfl
  intro n
  induction n with
  | zero=>
    intro l h0 _ hr hs;obtain rfl:j=0:=by omega
    simp[jh]
  | succ n ih=>
    intro l h0 h1 hr hs;have hn:n<P.length:=by omega
    have hPn:P[n]∈ib l:=hs _ (List.getElem_mem hn);have hg:((P.map (ii l)).take (n+1)).getD n 0=ii l P[n]:=by
      rw[aF,cQ,aE (by omega),bq,ax hn];rfl
    unfold jh;rw[hg,Gm hPn];by_cases hjn:j=n+1
    ·have hc:=hat n (by omega);rw[aF (l:=P),ax hn] at hc;rw[aE ⟨by rcases hfl with h|h<;>omega,hc⟩];rw[show (P.take (n+1)).drop j=[] by rw[hjn];simp];simp[hjn]
    ·have hne:¬(n+1≤fs.length∧(fs.getD n (0,0)).2=P[n]):=by
       rintro ⟨h2,h3⟩;rcases hfl with h|⟨h,k,hk,hfk⟩
       ·omega
       ·obtain rfl:n=j:=by omega
        have h4:(fs.map (·.2))[n]? = some k:=by
          rw[hfk,aT (by simp;omega)];simp[cW hj]
        rw[bq] at h4;rw[aF] at h3
        cases h5:fs[n]? with
        | none=>rw[h5] at h4;cases h4
        | some x=>
          rw[h5] at h3 h4;simp at h3 h4;exact hk (by rw[←h4,h3];exact List.getElem_mem hn)
     rw[aB hne];have hset:=BP hr hPn (pP a);unfold pP at hset;rw[hset];have hfr:ib (l.map fun q=>if q.fr=P[n] then ({q with to:=a+1,op:=false}:fh) else q)=ib l:=Bl (fun q=>q.fr=P[n]) (pP a) (fun _=>rfl) l;have hix:∀p,ii (l.map fun q=>if q.fr=P[n] then ({q with to:=a+1,op:=false}:fh) else q) p=ii l p:=fun p=>by unfold ii;rw[hfr]
     have hih:=ih (l.map fun q=>if q.fr=P[n] then ({q with to:=a+1,op:=false}:fh) else q) (by omega) (by omega) (by rw[hfr];exact hr) (by rw[hfr];exact hs);have hmap:P.map (ii (l.map fun q=>if q.fr=P[n] then ({q with to:=a+1,op:=false}:fh) else q))=P.map (ii l):=cK fun p _=>hix p
     rw[hmap] at hih;rw[List.take_take,cW (by omega),hih];congr 1;rw[List.map_map];refine cK fun q _=>?_
     have hsp:(P.take (n+1)).drop j=(P.take n).drop j++[P[n]]:=by
       rw[bH hn,List.drop_append_of_le_length (by simp;omega)]
     have hnd:P[n]∉(P.take n).drop j:=by
       intro hm;have hm':=List.mem_of_mem_drop hm;rw[di] at hP;obtain⟨i,hi,e⟩:=List.mem_take_iff_getElem.1 hm'
       have:=cL.1 hP i n (by omega) hn (by omega)
       exact this e
     rw[hsp];simp only[Function.comp];by_cases e:q.fr=P[n]
     ·rw[aE e,aB (show ¬({q with to:=a+1,op:=false}:fh).fr∈(P.take n).drop j by show ¬q.fr∈_;rw[e];exact hnd),aE (show q.fr∈(P.take n).drop j++[P[n]] by simp[e])];rfl
     ·rw[aB e];by_cases e2:q.fr∈(P.take n).drop j
      ·rw[aE e2,aE (by simp[e2])]
      ·rw[aB e2,aB (by simp[e2,e])]
def xf (A:List (Int×Int)) (q:fh):fh:=match A.find? (fun x=>x.2==q.fr) with
  | some x=>{q with mode:=jZ x.1}
  | none=>q
theorem tr (B:List (Int×Int)):∀(A:List (Int×Int)) (i:Nat) (l:List fh) (h:List Nat),(ib l).Pairwise (· < ·)→(∀x∈A,x.2∈ib l)→(A.map (·.2)).Nodup →
    (∀t x,A[t]? = some x→h[i+t]? = some (ii l x.2))→fG (A++B) i l h=fG B (i+A.length) (l.map (xf A)) h
  | [],i,l,h,_,_,_,_=>by
    have:l.map (xf [])=l:=by
      rw[show (xf [])=id from funext fun q=>rfl,List.map_id]
    rw[this];rfl
  | f::A,i,l,h,hr,hm,hn,hh=>by
    have h0:=hh 0 f rfl;rw[Nat.add_zero] at h0;have hil:i<h.length:=(aC.1 h0).1;have hgi:h.getD i 0=ii l f.2:=by rw[aF,h0];rfl
    have hf:=hm f (by simp);rw[bv];have hu:fG (f::(A++B)) i l h=fG (A++B) (i+1) (l.set (h.getD i 0) {l.getD (h.getD i 0) dP with mode:=jZ f.1}) h:=by rw[fG,aE hil]
    rw[hu,hgi];have hset:=BP hr hf (fun q=>{q with mode:=jZ f.1});rw[hset];have hfr:ib (l.map fun q=>if q.fr=f.2 then ({q with mode:=jZ f.1}:fh) else q)=ib l:=Bl (fun q=>q.fr=f.2) (fun q=>{q with mode:=jZ f.1}) (fun _=>rfl) l;rw[cE,List.nodup_cons] at hn;rw[tr B A (i+1) _ h (by rw[hfr];exact hr) (fun x hx=>by rw[hfr];exact hm x (by simp[hx])) hn.2 (fun t x hx=>by
      unfold ii;rw[hfr]
      have:=hh (t+1) x (by simpa using hx)
      rw[show i+(t+1)=i+1+t by omega] at this;exact this)]
    rw[List.map_map,aO,show i+1+A.length=i+(A.length+1) by omega];congr 1;refine cK fun q _=>?_
    simp only[Function.comp];by_cases e:q.fr=f.2
    ·rw[aE e];have e1:A.find? (fun x=>x.2==q.fr)=none:=by
       rw[dG];intro x hx;simp only[aR];intro e2;exact hn.1 (cH.2 ⟨x,hx,by rw[e2,e]⟩)
     unfold xf;simp only[e1];rw[List.find?_cons_of_pos (by simp[e])]
    ·rw[aB e];unfold xf;rw[List.find?_cons_of_neg (by simp;exact fun h=>e h.symm)]
def kC (l:List UInt8) (k:Nat):List Nat:=(eV (FT l k)).map (ii (eM l k))
def oQ (F:fg):List (Int×Int):=F.map fun x=>(eG x.1,x.2)
theorem sV (F:fg):(oQ F).map (·.2)=eV F:=by simp[oQ,eV]
theorem uo (F:fg) (p:Int):(oQ F).find? (fun x=>x.2==p)=(F.find? (fun x=>x.2==p)).map fun x=>(eG x.1,x.2):=by
  unfold oQ;rw[List.find?_map];rfl
theorem CY:Ak (oQ (FT l (k+1))) k (eM l k) (kC l k)=(eM l (k+1),kC l (k+1)):=by
  have ci:=mM l k;obtain⟨j,A,B,hF,hj,hA,hB⟩:=mQ l k;have hr:=oW l k;have hnd:(eV (FT l k)).Nodup:=by rw[di];exact hr.1.imp (fun h=>by omega)
  have hkP:(k:Int)∉eV (FT l k):=fun h=>by have:=hr.2 _ h;omega
  have hkC:(k:Int)∉ib (eM l k):=fun h=>by have:=ci.bnd _ h;omega
  have hjl:j≤(eV (FT l k)).length:=by simpa [eV] using hj
  have hlen:(kC l k).length=(eV (FT l k)).length:=by simp[kC]
  have hpop:=CZ (oQ (FT l (k+1))) k (eV (FT l k)) hnd j hjl (by
    rw[sV,hF,eV,cD];rw[show A.map (·.2)=_ from hA];rcases hB with rfl|⟨c,rfl⟩
    ·left;simp
    ·right;exact⟨k,hkP,rfl⟩) (eV (FT l k)).length (eM l k) hjl (an _) ci.rise ci.sub
  rw[bP (an _),bP (by simp)] at hpop;unfold Ak;rw[hlen];show (let x:=jh _ _ _ _ ((eV (FT l k)).map (ii (eM l k)));fG _ 0 x.1 x.2)=_;rw[hpop];simp only;have hfsA:oQ (FT l (k+1))=oQ A++oQ B:=by rw[hF];simp[oQ]
  have hAmem:∀p∈eV A,p∈eV (FT l k):=fun p hp=>by rw[hA] at hp;exact cP hp
  have hfr1:ib ((eM l k).map fun q=>if q.fr∈(eV (FT l k)).drop j then pP k q else q)=ib (eM l k):=Bl (fun q=>q.fr∈(eV (FT l k)).drop j) (pP k) (fun _=>rfl) _;have hAl:A.length=j:=by have:=congrArg List.length hA;simp[eV] at this;simp[eV] at hjl;omega
  rw[hfsA,tr (oQ B) (oQ A) 0 _ _ (by rw[hfr1];exact ci.rise) (fun x hx=>by
    rw[hfr1]
    have:x.2∈eV A:=by rw[←sV];exact cH.2 ⟨x,hx,rfl⟩
    exact ci.sub _ (hAmem _ this)) (by rw[sV,hA];exact hnd.sublist (List.take_sublist _ _)) (fun t x hx=>by
    unfold ii;rw[hfr1,cF];have h1:(eV A)[t]? = some x.2:=by rw[←sV,bq,hx];rfl
    have ht:t<j:=by have:=(aC.1 h1).1;rw[←hAl];simpa [eV] using this
    rw[hA,cQ,aE ht] at h1;rw[cQ,aE ht,bq,h1];rfl)]
  have hlist:(((eM l k).map fun q=>if q.fr∈(eV (FT l k)).drop j then pP k q else q).map (xf (oQ A)))=(eM l k).map (sC (FT l (k+1)) ((k:Int)+1)):=by
    rw[List.map_map];refine cK fun q hq=>?_
    have hqf:q.fr∈ib (eM l k):=cH.2 ⟨q,hq,rfl⟩;have hqk:q.fr≠(k:Int):=fun e=>hkC (e▸hqf)
    simp only[Function.comp];have htd:q.fr∈eV (FT l k)↔q.fr∈(eV (FT l k)).take j∨q.fr∈(eV (FT l k)).drop j:=by
      rw[←bN,dm]
    have hFmem:q.fr∈eV (FT l (k+1))↔q.fr∈eV A:=by
      rw[hF,eV,cD,bN];constructor
      ·rintro (h|h)
       ·exact h
       ·rcases hB with rfl|⟨c,rfl⟩
        ·cases h
        ·simp at h;exact absurd h hqk
      ·exact .inl
    have hopn:=ci.opn q hq;by_cases hd:q.fr∈(eV (FT l k)).drop j
    ·have hnt:q.fr∉eV A:=by
       rw[hA];intro ht;rw[←dm j (eV (FT l k))] at hnd
       exact(List.nodup_append.1 hnd).2.2 _ ht _ hd rfl
     rw[aE hd];have ho:q.op=true:=hopn.2 (htd.2 (.inr hd));have e1:(oQ A).find? (fun x=>x.2==(pP (k:Int) q).fr)=none:=by
       rw[uo,Option.map_eq_none_iff,dG];intro y hy;simp only[aR];intro e;exact hnt (cH.2 ⟨y,hy,e⟩)
     unfold xf sC;rw[aE ho,pM (fun h=>hnt (hFmem.1 h))];simp only[e1];rfl
    ·rw[aB hd];by_cases ht:q.fr∈eV A
     ·have ho:q.op=true:=hopn.2 (hAmem _ ht);obtain⟨y,hy,hye⟩:=cH.1 ht;have hsome:(A.find? (fun x=>x.2==q.fr)).isSome=true:=by
        rw[List.find?_isSome];exact⟨y,hy,by simp[hye]⟩
      obtain⟨z,hz⟩:=Option.isSome_iff_exists.1 hsome;have e1:(oQ A).find? (fun x=>x.2==q.fr)=some (eG z.1,z.2):=by rw[uo,hz];rfl
      have e2:qT (FT l (k+1)) q.fr=some z.1:=by unfold qT;rw[hF,List.find?_append,hz];rfl
      unfold xf sC;rw[aE ho];simp only[e1,e2];rfl
     ·have hno:¬q.op=true:=fun h=>by
        rcases htd.1 (hopn.1 h) with h1|h1
        ·rw[←hA] at h1;exact ht h1
        ·exact hd h1
      have e1:(oQ A).find? (fun x=>x.2==q.fr)=none:=by
        rw[uo,Option.map_eq_none_iff,dG];intro y hy;simp only[aR];intro e;exact ht (cH.2 ⟨y,hy,e⟩)
      unfold xf sC;rw[aB hno];simp only[e1]
  rw[hlist];have hhA:((eV (FT l k)).map (ii (eM l k))).take j=(eV A).map (ii (eM l k)):=by rw[hA,List.map_take]
  rw[hhA];have hixm:∀m:List fh,ib m=ib (eM l k)→∀p,ii m p=ii (eM l k) p:=fun m hm p=>by unfold ii;rw[hm]
  have hfu:ib ((eM l k).map (sC (FT l (k+1)) ((k:Int)+1)))=ib (eM l k):=Cr _ _ _;have hfsl:(oQ A).length=j:=by simp[oQ,hAl]
  rw[cF,hfsl];have hold:∀p∈eV A,ii (eM l (k+1)) p=ii (eM l k) p:=by
    intro p hp;unfold ii;rw[jI,List.idxOf_append,aE (ci.sub p (hAmem p hp))]
  rcases hB with rfl|⟨c,rfl⟩
  ·have hnew:mZ (FT l (k+1)) k (eM l k)=[]:=oL (by
     intro p hp e;subst e;rw[hF,bM] at hp;exact hkP (hAmem _ hp))
   show fG [] _ _ _=_;rw[show eM l (k+1)=(eM l k).map (sC (FT l (k+1)) ((k:Int)+1))++mZ (FT l (k+1)) k (eM l k) from rfl,hnew,bM];unfold fG kC;rw[Prod.mk.injEq];refine⟨rfl,?_⟩;rw[hF,bM]
   exact(cK fun p hp=>hold p hp).symm
  ·have hnew:=oK (k:=(k:Int)) (l:=eM l k) hF;show fG [(eG c,(k:Int))] _ _ _=_;unfold fG;have hnl:¬j<((eV A).map (ii (eM l k))).length:=by simp[eV,hAl]
   rw[aB hnl];unfold fG;rw[show eM l (k+1)=(eM l k).map (sC (FT l (k+1)) ((k:Int)+1))++mZ (FT l (k+1)) k (eM l k) from rfl,hnew];rw[Prod.mk.injEq];constructor
   ·congr 1;simp only[List.cons.injEq,and_true];congr 1;unfold D5;rw[hF,List.dropLast_concat];rcases Nat.eq_zero_or_pos j with h0|h0
    ·have:A=[]:=bJ (by omega)
     subst this;simp[h0]
    ·rw[aE h0];obtain⟨G,y,rfl⟩:∃G y,A=G++[y]:=by
       rcases List.eq_nil_or_concat A with h|⟨G,y,h⟩
       ·subst h;simp at hAl;omega
       ·exact⟨G,y,by simpa using h⟩
     simp at hAl;simp only[List.getLast?_append,List.getLast?_singleton,Option.some_or];rw[aF,bq]
     have:(eV (G++[y]))[j-1]? = some y.2:=by
       simp only[eV,cD,cE,List.map_nil];rw[aT (by simp;omega)];simp[show j-1-G.length=0 by omega]
     rw[this];rfl
   ·have hP1:eV (FT l (k+1))=eV A++[(k:Int)]:=by rw[hF];simp[eV]
    have hC:ib (eM l (k+1))=ib (eM l k)++[(k:Int)]:=by rw[jI,hnew];rfl
    unfold kC;rw[hP1,cD,cE,List.map_nil];congr 1
    ·exact(cK fun p hp=>(hold p hp).symm)
    ·rw[cC];unfold ii;rw[hC,List.idxOf_append,aB hkC];simp[ib]
def jo (c:UInt8):Bool:=decide (fp c=5)
def gF (c:UInt8):Bool:=decide (fp c=6)
def iF (c:UInt8):Bool:=jo c||gF c
def oM (l:List UInt8):Nat:=match l with
  | []=>0
  | c::_=>if jo c=true then (l.takeWhile iF).length else 0
def sD (c:UInt8):Bool:=[64,42,35,63,45,36,33].contains c
def yu (l:List UInt8):Nat:=if 0<oM l then oM l else match l with
  | []=>0
  | c::_=>if sD c=true∨gF c=true then 1 else 0
def pG (l:List UInt8) (i:Nat):Nat:=yu (l.drop i)
def lu (n:Int) (q:fh):fh:=if q.op=true then {q with to:=n} else q
def nZ (l:List UInt8) (q:fh):fh:=if q.mode=12 then {q with to:=q.fr+1+(pG l (q.fr+1).toNat:Int),op:=false} else q
def nY (l:List UInt8) (q:fh):fh:=nZ l (lu l.length q)
def dS (l:List UInt8):List fh:=(eM l l.length).map (nY l)
theorem zc (n:Int) (q:fh):(lu n q).fr=q.fr:=by unfold lu;split<;>rfl
theorem JI (q:fh):(nZ l q).fr=q.fr:=by unfold nZ;split<;>rfl
theorem Ct (q:fh):(nY l q).fr=q.fr:=by unfold nY;rw[JI,zc]
def xw (F:fg) (p:Int):Nat:=if p∈eV F then (eV F).idxOf p+1 else 0
def iT (F:Nat→fg) (fr:Int) (n:Nat):Nat→Nat→fh→fh
  | 0,_,q=>q
  | m+1,k,q=>if xw (F k) fr=0 then {q with to:=k,op:=false} else iT F fr n m (k+1) {q with mode:=sZ ((F k).getD (n-1) (0,0)).1}
def DY (n:Nat) (p:Int):List fh→Nat→Int→Int
  | [],_,u=>u
  | q::l,k,u=>DY n p l (k+1) (if 1<n∧q.fr=p then (k:Int) else u)
def FD (l:List UInt8) (f:Nat) (out:List fh):fh:=
  nZ l (iT (FT l) f (xw (FT l (f+1)) f) (l.length-f) (f+1) ⟨0,f,l.length,DY (xw (FT l (f+1)) f) ((eV (FT l (f+1))).getD (xw (FT l (f+1)) f-2) 0) out 0 (-1),true⟩)
def ku (l:List UInt8):Nat→List fh
  | 0=>[]
  | f+1=>ku l f++(if xw (FT l (f+1)) f=0 then [] else [FD l f (ku l f)])
def l8 (l:List UInt8):Nat→Nat→fh→fh
  | 0,_,q=>q
  | m+1,k,q=>l8 l m (k+1) (sC (FT l k) k q)
theorem vI (l:List UInt8):∀(m a:Nat) (q:fh),l8 l (m+1) a q=sC (FT l (a+m)) ((a+m:Nat):Int) (l8 l m a q)
  | 0,a,q=>rfl
  | m+1,a,q=>by
    show l8 l (m+1) (a+1) _=_;rw[vI l m (a+1)];rw[show a+1+m=a+(m+1) by omega];rfl
theorem Cu (l:List UInt8):∀(m a:Nat) (q:fh),(l8 l m a q).fr=q.fr
  | 0,_,_=>rfl
  | m+1,a,q=>by show (l8 l m (a+1) _).fr=_;rw[Cu l m,zT]
theorem vJ (l:List UInt8):∀(m a:Nat) (q:fh),q.op=false→l8 l m a q=q
  | 0,_,_,_=>rfl
  | m+1,a,q,h=>by
    show l8 l m (a+1) _=_
    have:sC (FT l a) a q=q:=by unfold sC;rw[aB (by rw[h];simp)]
    rw[this,vJ l m (a+1) q h]
theorem nX {l:List α} {f g:α→List β} (h:∀x∈l,f x=g x):l.flatMap f=l.flatMap g:=by
  rw[List.flatMap_def,List.flatMap_def,cK h]
theorem uD (l:List UInt8):∀k,eM l k=(List.range k).flatMap fun f=>(mZ (FT l (f+1)) f (eM l f)).map (l8 l (k-(f+1)) (f+2))
  | 0=>rfl
  | k+1=>by
    rw[List.range_succ,List.flatMap_append];show (eM l k).map _++_=_;congr 1
    ·conv=>lhs;rw[uD l k]
     rw[List.map_flatMap];refine nX fun f hf=>?_
     have hfk:=cT.1 hf;rw[List.map_map];refine cK fun q _=>?_
     simp only[Function.comp];rw[show k+1-(f+1)=(k-(f+1))+1 by omega,vI,show f+2+(k-(f+1))=k+1 by omega];rfl
    ·simp only[List.flatMap_cons,List.flatMap_nil,bM];rw[dc];show _=List.map (fun q=>q) _;rw[List.map_id']
theorem rk:(eV (FT l k)).Nodup:=by rw[di];exact(oW l k).1.imp (fun h=>by omega)
theorem rH {P:List Int} (h:P.Nodup) (hi:P[i]? = some p) (hj:P[j]? = some p):i=j:=by
  obtain⟨h1,h2⟩:=aC.1 hi;obtain⟨h3,h4⟩:=aC.1 hj;rw[di] at h;rcases Nat.lt_trichotomy i j with e|e|e
  ·exact absurd (h2.trans h4.symm) (cL.1 h i j h1 h3 e)
  ·exact e
  ·exact absurd (h4.trans h2.symm) (cL.1 h j i h3 h1 e)
theorem lg (f n:Nat) (h0:(eV (FT l (f+1)))[n]? = some (f:Int)):∀k,f+1≤k→(f:Int)∈eV (FT l k)→(eV (FT l k))[n]? = some (f:Int):=by
  intro k hk
  induction k with
  | zero=>omega
  | succ k ih=>
    intro hm;by_cases e:k=f
    ·subst e;exact h0
    ·obtain⟨j,A,B,hF,hj,hA,hB⟩:=mQ l k;have hmA:(f:Int)∈eV A:=by
       rw[hF,eV,cD] at hm;rcases bN.1 hm with h|h
       ·exact h
       ·rcases hB with rfl|⟨c,rfl⟩
        ·cases h
        ·simp at h;omega
     have hmt:=hmA;rw[hA] at hmt;have ih':=ih (by omega) (cP hmt);obtain⟨i,hi,hie⟩:=List.mem_take_iff_getElem.1 hmt;have hij:i=n:=rH (rk l k) (aC.2 ⟨by omega,hie⟩) ih';rw[hF,eV,cD,aQ (by
       have:=congrArg List.length hA
       simp[eV] at this ⊢;simp[eV] at hi;omega)]
     rw[show A.map (·.2)=eV A from rfl,hA,cQ,aE (by omega)];exact ih'
theorem zd (h:(eV F).Nodup) (hi:F[i]? = some y):qT F y.2=some y.1:=by
  have hm:y.2∈eV F:=cH.2 ⟨y,aW hi,rfl⟩;obtain⟨c,hc,hcm⟩:=ut hm;obtain⟨j,hj⟩:=List.mem_iff_getElem?.1 hcm;have e1:(eV F)[i]? = some y.2:=by rw[bq,hi];rfl
  have e2:(eV F)[j]? = some y.2:=by rw[bq,hj];rfl
  have:=rH h e1 e2
  subst this;rw[hi] at hj;injection hj with hj
  rw[hc,hj]
theorem kg:xw F p=0↔p∉eV F:=by unfold xw;split<;>simp_all
theorem zE (h:p∈eV F):(eV F)[xw F p-1]? = some p∧1≤xw F p:=by
  unfold xw;rw[aE h];refine⟨?_,by omega⟩;rw[Nat.add_sub_cancel,ax (dw h)];exact congrArg some (List.getElem_idxOf (dw h))
theorem oz (l:List UInt8) (f n:Nat) (hn:∀k,f+1≤k→(f:Int)∈eV (FT l k)→(eV (FT l k))[n-1]? = some (f:Int)):∀(m k:Nat) (q:fh),q.op=true→q.fr=f→f+1≤k →
    iT (FT l) f n m k {q with to:=l.length}=lu l.length (l8 l m k q)
  | 0,k,q,ho,hf,hk=>by unfold iT l8 lu;rw[aE ho]
  | m+1,k,q,ho,hf,hk=>by
    unfold iT;by_cases hm:(f:Int)∈eV (FT l k)
    ·rw[aB (fun h=>kg.1 h hm)];have h1:=hn k hk hm;rw[bq] at h1
     cases hy:(FT l k)[n-1]? with
     | none=>rw[hy] at h1;cases h1
     | some y=>
       rw[hy] at h1;simp at h1;have h2:=zd (rk l k) hy;rw[h1] at h2;have hu:sC (FT l k) k q={q with mode:=sZ y.1}:=by unfold sC;rw[aE ho,hf,h2]
       have hg:((FT l k).getD (n-1) (0,0)).1=y.1:=by rw[aF,hy];rfl
       rw[hg];show iT (FT l) f n m (k+1) {({q with mode:=sZ y.1}:fh) with to:=l.length}=lu l.length (l8 l m (k+1) (sC (FT l k) k q));rw[hu];exact oz l f n hn m (k+1) {q with mode:=sZ y.1} ho hf (by omega)
    ·rw[aE (kg.2 hm)];have hu:sC (FT l k) k q={q with to:=k,op:=false}:=by unfold sC;rw[aE ho,hf,pM hm]
     show _=lu l.length (l8 l m (k+1) (sC (FT l k) k q));rw[hu,vJ _ _ _ _ rfl];rfl
theorem vV (n:Nat) (p:Int):∀(l:List fh) (k:Nat) (u:Int),(1<n→p∉ib l)→DY n p l k u=u
  | [],_,_,_=>rfl
  | q::l,k,u,h=>by
    unfold DY;rw[aB (fun hh=>h hh.1 (by simp[ib,hh.2]))];exact vV n p l (k+1) u (fun hn hm=>h hn (by simp only[ib,cE,bR];exact .inr hm))
theorem BD (n:Nat) (p:Int) (hn:1<n):∀(l:List fh) (k:Nat) (u:Int),(ib l).Nodup→p∈ib l→DY n p l k u=((k+ii l p:Nat):Int)
  | [],_,_,_,h=>by simp[ib] at h
  | q::l,k,u,hd,h=>by
    unfold DY;simp only[ib,cE,List.nodup_cons] at hd;by_cases e:q.fr=p
    ·rw[aE ⟨hn,e⟩,vV n p l (k+1) k (fun _ hm=>hd.1 (by rw[e];exact hm))];simp[ii,ib,List.idxOf_cons,e]
    ·rw[aB (fun hh=>e hh.2)];have hm:p∈ib l:=by
       simp only[ib,cE,bR] at h;rcases h with h|h
       ·exact absurd h.symm e
       ·exact h
     rw[BD n p hn l (k+1) u hd.2 hm]
     have:ii (q::l) p=ii l p+1:=by
       simp only[ii,ib,cE,List.idxOf_cons]
       have:(q.fr==p)=false:=by simpa using e
       rw[this];rfl
     rw[this];congr 1;omega
theorem pH (l:List UInt8):∀f,f≤l.length→ku l f=(List.range f).flatMap (fun f=>(mZ (FT l (f+1)) f (eM l f)).map fun q=>nY l (l8 l (l.length-(f+1)) (f+2) q))∧ib (ku l f)=ib (eM l f)
  | 0,_=>⟨rfl,rfl⟩
  | f+1,hf=>by
    obtain⟨ih,ihf⟩:=pH l f (by omega);have ci:=mM l f;obtain⟨j,A,B,hF,hj,hA,hB⟩:=mQ l f;have hkP:(f:Int)∉eV (FT l f):=fun h=>by have:=(oW l f).2 _ h;omega
    have hAmem:∀p∈eV A,p∈eV (FT l f):=fun p hp=>by rw[hA] at hp;exact cP hp
    rcases hB with rfl|⟨c,rfl⟩
    ·have hno:(f:Int)∉eV (FT l (f+1)):=by rw[hF,bM];exact fun h=>hkP (hAmem _ h)
     have hnew:mZ (FT l (f+1)) f (eM l f)=[]:=oL (fun p hp e=>hno (e▸hp));have e:ku l (f+1)=ku l f:=by show ku l f++_=_;rw[aE (kg.2 hno),bM]
     rw[e];refine⟨?_,?_⟩
     ·rw[List.range_succ,List.flatMap_append,←ih];simp[hnew]
     ·rw[jI,hnew,ihf];simp[ib]
    ·have hnew:=oK (k:=(f:Int)) (l:=eM l f) hF;have hyes:(f:Int)∈eV (FT l (f+1)):=by rw[hF];simp[eV]
     have hAl:(f:Int)∉eV A:=fun h=>hkP (hAmem _ h)
     have hn:xw (FT l (f+1)) f=A.length+1:=by
       unfold xw;rw[aE hyes,hF,eV,cD,List.idxOf_append,aB hAl];simp
     have hidx:∀k,f+1≤k→(f:Int)∈eV (FT l k)→(eV (FT l k))[xw (FT l (f+1)) f-1]? = some (f:Int):=lg l f _ (zE hyes).1;have hup:DY (xw (FT l (f+1)) f) ((eV (FT l (f+1))).getD (xw (FT l (f+1)) f-2) 0) (ku l f) 0 (-1)=D5 (FT l (f+1)) (eM l f):=by
       rw[hn];unfold D5;rw[hF,List.dropLast_concat];rcases List.eq_nil_or_concat A with h|⟨G,y,h⟩
       ·subst h;rw[vV _ _ _ _ _ (fun h=>by simp at h)];rfl
       ·have h':A=G++[y]:=by simpa using h
        have hyA:y.2∈eV A:=by rw[h'];simp[eV]
        rw[h'];simp only[List.getLast?_append,List.getLast?_singleton,Option.some_or];have hp:(eV ((G++[y])++[(c,(f:Int))])).getD ((G++[y]).length+1-2) 0=y.2:=by
          rw[aF];simp only[eV,cD,cE,List.map_nil,aH,aO,bI];rw[aQ (by simp),aT (by simp)];simp
        rw[hp,BD _ _ (by simp) _ _ _ (by rw[ihf,di];exact ci.rise.imp (fun h=>by omega)) (by rw[ihf];exact ci.sub _ (hAmem _ hyA))];rw[cF];unfold ii;rw[ihf]
     have e:ku l (f+1)=ku l f++[nY l (l8 l (l.length-(f+1)) (f+2) ⟨sZ c,f,0,D5 (FT l (f+1)) (eM l f),true⟩)]:=by
       show ku l f++_=_;rw[aB (fun h=>kg.1 h hyes)];congr 2;unfold FD nY;congr 1;rw[hup,show l.length-f=(l.length-(f+1))+1 by omega];have hs:=oz l f _ hidx (l.length-(f+1)+1) (f+1) ⟨0,f,0,D5 (FT l (f+1)) (eM l f),true⟩ rfl rfl (an _);rw[hs];show lu _ (l8 l (l.length-(f+1)) (f+2) (sC (FT l (f+1)) ((f+1:Nat):Int) ⟨0,f,0,D5 (FT l (f+1)) (eM l f),true⟩))=_;congr 2;unfold sC;rw[aE rfl];have hfa:qT (FT l (f+1)) (f:Int)=some c:=zd (y:=(c,(f:Int))) (rk l (f+1)) (i:=A.length) (by rw[hF];simp);simp only[hfa]
     rw[e];refine⟨?_,?_⟩
     ·rw[List.range_succ,List.flatMap_append,←ih];simp[hnew]
     ·rw[jI,hnew,ib,cD,show (ku l f).map (·.fr)=_ from ihf];simp only[cE,List.map_nil,Ct,Cu]
theorem tM:ku l l.length=dS l:=by
  unfold dS;rw[(pH l l.length (an _)).1];conv=>rhs;rw[uD]
  rw[List.map_flatMap];refine nX fun f _=>?_
  rw[List.map_map];rfl
def zO (st:fg):Prop:=∀y∈st,y.1.toNat≠76
theorem zO.tail (h:zO st):zO st.tail:=fun y hy=>h y (List.mem_of_mem_tail hy)
theorem zO.cons {st:fg} {c:UInt8} {p:Int} (h:zO st) (hc:c.toNat≠76):zO ((c,p)::st):=by
  intro y hy;rcases bR.1 hy with rfl|hy
  ·exact hc
  ·exact h y hy
theorem zO.of_cons (h:zO (y::st)):zO st:=fun z hz=>h z (cj _ hz)
def DR (a:Int) (x:fg×Bool):Prop:=zO x.1∨∃d q r,x.1=((76:UInt8),a)::(d,q)::r∧zO ((d,q)::r)∧(d.toNat≠88∧d.toNat≠79∧d.toNat≠69)∧(d.toNat=84∨d.toNat=67∨d.toNat=80→x.2=false)
theorem Aw (q:Int) (r:fg) (f:Bool) (b:UInt8) (a:Int) (h:zO ((c,q)::r)) (hc:c.toNat≠88∧c.toNat≠79∧c.toNat≠69):DR a (dU ((c,q)::r) f c b a):=by
  unfold dU
  repeat' (refine ej (DR a) (fun _=>?_) (fun _=>?_))
  all_goals first
    | exact .inl h
    | exact .inl h.tail
    | exact .inr ⟨c,q,r,rfl,h,hc,fun _=>rfl⟩
    | exact .inl (h.cons (by decide))
theorem qq (q:Int) (r:fg) (f:Bool) (b:UInt8) (a:Int) (h:zO ((c,q)::r)) (h1:c.toNat≠79) (h2:c.toNat≠69):DR a (dK ((c,q)::r) f c b a):=by
  unfold dK;refine ej (DR a) (fun h3=>Aw c q r f b a h ⟨by omega,h1,h2⟩) (fun h3=>?_);refine ej (DR a) (fun _=>.inl h.tail) (fun h4=>?_);have hd:c.toNat≠88∧c.toNat≠79∧c.toNat≠69:=⟨h4,h1,h2⟩
  repeat' (refine ej (DR a) (fun _=>?_) (fun _=>?_))
  all_goals first
    | exact .inl h
    | exact .inl h.tail
    | exact .inr ⟨c,q,r,rfl,h,hd,fun hh=>absurd hh h3⟩
    | exact .inl (h.cons (by decide))
    | exact .inl (h.of_cons.cons (by decide))
theorem I1 (st:fg) (f:Bool) (b:UInt8) (a0 a:Int) (h:DR a0 (st,f)):DR a (ez st f b a):=by
  rcases h with h|⟨d,q,r,he,h,hd,hf⟩
  ·match st,h with
   | [],h=>exact .inl h
   | (c,p)::r,h=>
     have hc:c.toNat≠76:=h (c,p) (dr ..);unfold ez;simp only;rw[aB hc];refine ej (DR a) (fun _=>?_) (fun h1=>?_)
     ·exact ej (DR a) (fun _=>.inl (zO.cons h.of_cons (by decide))) (fun _=>qq 67 p r f b a (zO.cons h.of_cons (by decide)) (by decide) (by decide))
     ·refine ej (DR a) (fun _=>?_) (fun h2=>qq c p r f b a h h1 h2);exact ej (DR a) (fun _=>.inl h.of_cons) (fun _=>qq 65 p r f b a (zO.cons h.of_cons (by decide)) (by decide) (by decide))
  ·simp only at he;subst he;unfold ez;simp only;rw[aE (by decide)];refine ej (DR a) (fun _=>.inl (h.cons (by decide))) (fun _=>?_);refine ej (DR a) (fun _=>?_) (fun _=>?_)
   ·exact ej (DR a) (fun _=>.inl (h.cons (by decide))) (fun _=>.inl (h.cons (by decide)))
   ·exact ej (DR a) (fun _=>.inl h) (fun _=>qq d q r f b a h hd.2.1 hd.2.2)
theorem Kn (l:List UInt8):∀k:Nat,DR ((k:Int)-1) (fY l k)
  | 0=>.inl (by intro y hy;simp[fY] at hy;rw[hy];decide)
  | k+1=>by
    have:=I1 (fY l k).1 (fY l k).2 (l.getD k 0) _ k (Kn l k)
    rw[show ((k+1:Nat):Int)-1=k by omega];exact this
theorem BJ (p:UInt8→Bool):∀(m:List UInt8) (j:Nat),j<(m.takeWhile p).length→p (m.getD j 0)=true
  | [],j,h=>by simp at h
  | c::m,0,h=>by
    by_cases hc:p c=true
    ·exact hc
    ·rw[cS hc] at h;simp at h
  | c::m,j+1,h=>by
    by_cases hc:p c=true
    ·rw[dh hc] at h;exact BJ p m j (by simpa using h)
    ·rw[cS hc] at h;simp at h
def gM (l:List UInt8) (a k:Nat):Bool:=nA (fY (l.drop a) k).1 (l.getD (a+k) 0)
def js (l:List UInt8) (a:Nat):Nat:=ny (gM l a) (l.length-a) 0
def mL (c:UInt8):List UInt8:=
  if c.toNat=83 then [39] else if c.toNat=68 then [34] else if c.toNat=66 then [96] else if c.toNat=86∨c.toNat=73 then [125]
  else if c.toNat=67∨c.toNat=79∨c.toNat=80∨c.toNat=82∨c.toNat=69 then [41] else if c.toNat=65 then [41,41] else if c.toNat=88∨c.toNat=35 then [10] else []
theorem zC:(mL c).length≤2:=by
  unfold mL;repeat' split
  all_goals simp
def L0 (st:fg):List UInt8:=st.flatMap fun x=>mL x.1
theorem zB (p:Int) (r:fg):L0 ((c,p)::r)=mL c++L0 r:=rfl
end Go.Proofs.YtcagfamdoaoimaaGreatDoor
