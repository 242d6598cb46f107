/- Plain functions of chapters 4 and 6: the classes of bytes, and the machine of modes as the program and as the reference have it. No program is in sight. -/
import Derived.Lib.Hide
import Derived.WalkKit
set_option linter.unusedVariables false
set_option linter.unusedSimpArgs false
set_option maxRecDepth 100000
set_option maxHeartbeats 8000000
namespace Go.Proofs.YtmclohkaiemnaaaGreatDoor
section
open Go.RowKit
abbrev aa:=@List.setIfInBounds_toArray
abbrev ac:=@Lib.hid
abbrev ae:=@And.intro
abbrev ai:=@List.getElem_cons_succ
abbrev aj:=@List.getElem_cons_zero
abbrev am:=@List.getElem_toArray
abbrev an:=@List.set_cons_zero
abbrev ar:=@List.set_cons_succ
abbrev au:=@Nat.le_refl
abbrev ax:=@List.getElem?_eq_getElem
abbrev ay:=@Below.refl
abbrev az:=@List.getElem?_eq_some_iff
abbrev aA:=@Nat.le_trans
abbrev aB:=@if_pos
abbrev aC:=@if_neg
abbrev aD:=@List.length_append
abbrev aE:=@decide_eq_false
abbrev aF:=@List.getD_eq_getElem?_getD
abbrev aG:=@decide_eq_true
abbrev aH:=@Bool.false_eq_true
abbrev aI:=@List.mem_of_getElem?
abbrev aJ:=@Array.getElem?_eq_some_iff
abbrev aK:=@beq_eq_false_iff_ne
abbrev aL:=@List.length_cons
abbrev aM:=@Nat.le_of_lt
abbrev aN:=@beq_false_of_ne
abbrev aO:=@IntWalk.i64_in
abbrev aP:=@List.getElem?_append_right
abbrev aQ:=@List.getElem?_cons_zero
abbrev aR:=@Bool.and_eq_true
abbrev aS:=@Decidable.em
abbrev aT:=@List.getElem?_toArray
abbrev aU:=@List.getElem?_append_left
abbrev aV:=@List.getElem?_map
abbrev aW:=@List.append_assoc
abbrev aX:=@callsIn_wide
abbrev aY:=@Exit.noGoto_normal
abbrev aZ:=@List.length_drop
abbrev bc:=@World.size_alloc
abbrev bj:=@List.mem_cons
abbrev bp:=@if_false
abbrev bq:=@Nat.zero_le
abbrev br:=@Below.alloc
abbrev bu:=@bodyPost_ret
abbrev bv:=@List.getElem?_drop
abbrev bz:=@List.length_take
abbrev bA:=@beq_iff_eq
abbrev bB:=@List.append_nil
abbrev bC:=@Nat.lt_or_ge
abbrev bE:=@List.length_map
abbrev bF:=@Nat.succ_le_succ
abbrev bG:=@List.map_append
abbrev bH:=@List.cons_append
abbrev bI:=@List.getElem?_eq_none
abbrev bJ:=@Int.toNat_natCast
abbrev bK:=@Exit.noGoto_ret
abbrev bM:=@List.mem_append
abbrev bN:=@List.eq_nil_of_length_eq_zero
abbrev bP:=@if_true
abbrev bQ:=@Nat.lt_of_lt_of_le
abbrev bR:=@List.take_of_length_le
abbrev bS:=@List.take_succ_eq_append_getElem
abbrev bT:=@decide_eq_true_eq
abbrev bU:=@List.length_singleton
abbrev bV:=@List.all_eq_true
abbrev bW:=@Nat.le_succ
abbrev bX:=@Below.heap_setCell
abbrev bY:=@List.IsPrefix.trans
abbrev bZ:=@List.mem_map
abbrev cg:=@List.length_nil
abbrev cj:=@List.mem_cons_of_mem
abbrev cq:=@List.drop_eq_getElem_cons
abbrev cw:=@List.map_congr_left
abbrev cy:=@Array.replicate_succ
abbrev cz:=@Array.replicate_zero
abbrev cC:=@List.mem_of_mem_take
abbrev cD:=@List.getElem?_cons_succ
abbrev cE:=@List.take_append_drop
abbrev cF:=@List.map_cons
abbrev cG:=@List.getElem?_take
abbrev cH:=@List.append_toArray
abbrev cI:=@List.mem_range
abbrev cJ:=@List.size_toArray
abbrev cK:=@List.nil_append
abbrev cL:=@info_parts
abbrev cM:=@decide_eq_false_iff_not
abbrev cN:=@Bool.true_and
abbrev cO:=@List.push_toArray
abbrev cP:=@List.take_succ_cons
abbrev cQ:=@Nat.add_zero
abbrev cR:=@List.takeWhile_cons
abbrev cS:=@Oper.semAt_some
abbrev cT:=@Bool.eq_iff_iff
abbrev cU:=@Nat.min_eq_left
abbrev cV:=@List.takeWhile_cons_of_neg
abbrev cW:=@of_decide_eq_true
abbrev db:=@List.mem_cons_self
abbrev dc:=@List.take_length
abbrev de:=@World.ownsRow_nil
abbrev dh:=@Option.some.injEq
abbrev di:=@List.mem_of_mem_drop
abbrev dj:=@List.takeWhile_cons_of_pos
abbrev dk:=@Bool.false_ne_true
abbrev dm:=@List.nodup_iff_pairwise_ne
abbrev dq:=@List.not_mem_nil
abbrev dr:=@List.pairwise_iff_getElem
abbrev dt:=@List.set_append_right
abbrev du:=@wp_loop_rounds
abbrev dv:=@Nat.zero_add
abbrev dw:=@List.mem_singleton
abbrev dx:=@rounds_succ
abbrev dy:=@Prod.mk.injEq
abbrev dA:=@List.map_map
abbrev dB:=@Nat.sub_self
abbrev dC:=@Bool.false_and
abbrev dD:=@List.drop_eq_nil_of_le
abbrev dE:=@UInt8.toNat_inj
abbrev dF:=@List.Mem.head
abbrev dG:=@Nat.mul_le_mul_right
abbrev dH:=@results_tmp
abbrev dI:=@Nat.add_sub_cancel_left
abbrev dJ:=@List.Mem.tail
abbrev dK:=@Below.heap_alloc
abbrev dL:=@List.mem_flatMap
abbrev dM:=@Nat.lt_succ_self
abbrev dN:=@List.drop_drop
abbrev dO:=@List.drop_zero
abbrev dQ:=@List.find?_eq_none
abbrev dR:=@List.getElem?_reverse
abbrev dS:=@List.cons.injEq
abbrev dU:=@Bool.or_eq_true
abbrev dV:=@Below.grown
end
theorem gh (p:UInt8→Bool) (h:(List.range 256).all (fun n=>p (UInt8.ofNat n))=true) (c:UInt8):p c=true:=by
  have h1:=bV.1 h c.toNat (cI.2 c.toNat_lt)
  rwa [UInt8.ofNat_toNat] at h1
def fI (c:UInt8):Int:=
  if c.toNat=32∨c.toNat=9 then 1
  else if c.toNat=10 then 2
  else if 48≤c.toNat∧c.toNat≤57 then 6
  else if (97≤c.toNat∧c.toNat≤122)∨(65≤c.toNat∧c.toNat≤90)∨c.toNat=95 then 5
  else if c.toNat=124∨c.toNat=38∨c.toNat=59∨c.toNat=60∨c.toNat=62∨c.toNat=40∨c.toNat=41 then 3
  else if c.toNat=92∨c.toNat=39∨c.toNat=34∨c.toNat=96∨c.toNat=36 then 4
  else 0
def iO (c:UInt8):Bool:=decide (fI c=1∨fI c=2∨fI c=3)
def fg (c:UInt8):Int:=
  if c.toNat=84 then 0 else if c.toNat=67 then 1 else if c.toNat=80 then 2 else if c.toNat=79 then 3 else if c.toNat=83 then 4 else if c.toNat=68 then 5 else if c.toNat=66 then 6
  else if c.toNat=86 then 7 else if c.toNat=73 then 8 else if c.toNat=65 then 9 else if c.toNat=82 then 10 else if c.toNat=69 then 11 else if c.toNat=76 then 12 else if c.toNat=88 then 13 else if c.toNat=35 then 14 else 15
def vi (c:UInt8) (l:List UInt8):Bool:=l.any fun d=>decide (d.toNat=c.toNat)
theorem yC (c:UInt8) (l:List UInt8) (k:Nat) (h:k<l.length):vi c (l.take (k+1))=(vi c (l.take k)||decide ((l[k]'h).toNat=c.toNat)):=by
  unfold vi;rw[bS h,List.any_append];simp
theorem yD (c:UInt8) (l:List UInt8) (k:Nat) (h:vi c (l.take k)=true):vi c l=true:=by
  unfold vi at h ⊢;rw[List.any_eq_true] at h ⊢;obtain⟨x,hx,hp⟩:=h;exact⟨x,cC hx,hp⟩
def FS:List UInt8:=[124,38,59,60,62,40,41]
def BU:List UInt8:=[92,39,34,96,36]
def yA:List UInt8:=[65,66,67,68,69,70,71,72,73,74,75,76,77,78,79,80,81,82,83,84,85,86,87,88,89,90,97,98,99,100,101,102,103,104,105,106,107,108,109,110,111,112,113,114,115,116,117,118,119,120,121,122,95]
def BV:List UInt8:=[48,49,50,51,52,53,54,55,56,57]
def Ci (c:UInt8):Int:=
  if c.toNat=32∨c.toNat=9 then 1 else if c.toNat=10 then 2 else if vi c FS=true then 3 else if vi c BU=true then 4 else if vi c yA=true then 5 else if vi c BV=true then 6 else 0
theorem GU (c:UInt8):Ci c=fI c:=by
  have h:=gh (fun c=>Ci c==fI c) (by decide +kernel) c;simpa using h
def pg (c:UInt8):List UInt8:=if c.toNat=92 then [88] else if c.toNat=36 then [76] else if c.toNat=96 then [66] else []
abbrev fK:=List (UInt8×Int)
variable {g:Bool} {p q:Int} {PB:Int→Prop} {ps X:List Int} {m i j:Nat} {stop:Nat→Bool} {st r st' F G:fK} {α β:Type} {c d:UInt8} {y:UInt8×Int} (fs:List (Int×Int)) (a:Int) (l:List UInt8) (P:List Int) (n:Int) (k:Nat)
def ez (st:fK) (f:Bool) (c b:UInt8) (at_:Int):fK×Bool:=
  if b.toNat=92 then ((88,at_)::st,f)
  else if b.toNat=39 then ((83,at_)::st,false)
  else if b.toNat=34 then ((68,at_)::st,false)
  else if b.toNat=96 then ((66,at_)::st,false)
  else if b.toNat=36 then ((76,at_)::st,false)
  else if b.toNat=35∧f=true then ((35,at_)::st,f)
  else if b.toNat=40 then (if c.toNat=84 then (st,true) else ((80,at_)::st,true))
  else if b.toNat=41 then (if c.toNat=84 then (st,true) else (st.tail,decide (c.toNat=80)))
  else (st,iO b)
def dZ (st:fK) (f:Bool) (c b:UInt8) (at_:Int):fK×Bool:=
  if c.toNat=84∨c.toNat=67∨c.toNat=80 then ez st f c b at_
  else if c.toNat=88 then (st.tail,if b.toNat=10 then f else false)
  else if c.toNat=83 then (if b.toNat=39 then (st.tail,f) else (st,f))
  else if c.toNat=35 then (if b.toNat=10 then (st.tail,true) else (st,f))
  else if c.toNat=66 then (if b.toNat=96 then (st.tail,f) else if b.toNat=92 then ((88,at_)::st,f) else (st,f))
  else if b.toNat=92 then ((88,at_)::st,f)
  else if b.toNat=36 then ((76,at_)::st,f)
  else if b.toNat=96 then ((66,at_)::st,f)
  else if c.toNat=65∨c.toNat=82 then
    (if b.toNat=40 then ((82,at_)::st,f) else if b.toNat=41∧c.toNat=82 then (st.tail,f)
     else if b.toNat=41 then (match st with|[]=>[]|(_,p)::r=>(69,p)::r,f) else (st,f))
  else if c.toNat=68 then (if b.toNat=34 then (st.tail,f) else (st,f))
  else if b.toNat=34 then ((68,at_)::st,f)
  else if b.toNat=125 then (st.tail,f)
  else if b.toNat=39∧c.toNat=86 then ((83,at_)::st,f)
  else (st,f)
def f9 (st:fK) (f:Bool) (b:UInt8) (at_:Int):fK×Bool:=
  match st with
  | []=>([],f)
  | (c,p)::r=>
    if c.toNat=76 then
      (if b.toNat=40 then ((79,p)::r,true)
       else if b.toNat=123 then
         (match r with
          | (d,_)::_=>if d.toNat=68∨d.toNat=73 then ((73,p)::r,f) else ((86,p)::r,f)
          | []=>((86,p)::r,f))
       else if b.toNat=36 then (r,f)
       else match r with
          | (d,_)::_=>dZ r f d b at_
          | []=>(r,f))
    else if c.toNat=79 then
      (if b.toNat=40 then ((65,p)::r,false) else dZ ((67,p)::r) f 67 b at_)
    else if c.toNat=69 then
      (if b.toNat=41 then (r,f) else dZ ((65,p)::r) f 65 b at_)
    else dZ st f c b at_
def ns:fK→Prop
  | []=>False
  | [(c,_)]=>c=84
  | (c,_)::r=>c≠84∧ns r
theorem ns.ne (h:ns st):st≠[]:=by rintro rfl;exact h
theorem ns.single (h:ns [(c,p)]):c=84:=h
theorem ns.cons {c:UInt8} {p:Int} {st:fK} (hc:c≠84) (h:ns st):ns ((c,p)::st):=by
  cases st with
  | nil=>exact h.elim
  | cons x r=>exact⟨hc,h⟩
theorem ns.tail (hc:c≠84) (h:ns ((c,p)::st)):ns st:=by
  cases st with
  | nil=>exact(hc h).elim
  | cons x r=>exact h.2
theorem ns.turn (hc:c≠84) (hd:d≠84) (h:ns ((c,p)::st)):ns ((d,q)::st):=(h.tail hc).cons hd
theorem ns.turn' (hc:c.toNat≠84) (hd:d≠84) (h:ns ((c,p)::st)):ns ((d,q)::st):=h.turn (fun e=>hc (by rw[e];rfl)) hd
theorem ns.tail' (hc:c.toNat≠84) (h:ns ((c,p)::st)):ns st:=h.tail (fun e=>hc (by rw[e];rfl))
theorem eF {α:Type} (P:α→Prop) {c:Prop} [Decidable c] {a b:α} (h1:c→P a) (h2:¬c→P b):P (if c then a else b):=by
  by_cases h:c
  ·rw[aB h];exact h1 h
  ·rw[aC h];exact h2 h
theorem mL (r:fK) (f:Bool) (c b:UInt8) (p at_:Int) (h:ns ((c,p)::r)):ns (dZ ((c,p)::r) f c b at_).1:=by
  unfold dZ
  repeat' (refine eF (fun x:fK×Bool=>ns x.1) (fun _=>?_) (fun _=>?_))
  all_goals first
    | exact rProgram_bot _ _ _ _ _ _ h
    | exact h
    | exact h.cons (by decide)
    | exact h.tail' (by omega)
    | exact h.turn' (by omega) (by decide)
theorem CM (st:fK) (f:Bool) (b:UInt8) (at_:Int) (h:ns st):ns (f9 st f b at_).1:=by
  match st,h with
  | (c,p)::r,h=>
    unfold f9;refine eF (fun x:fK×Bool=>ns x.1) (fun hc=>?_) (fun _=>?_)
    ·have ht:=h.tail' (by omega);refine eF (fun x:fK×Bool=>ns x.1) (fun _=>h.turn' (by omega) (by decide)) (fun _=>?_);refine eF (fun x:fK×Bool=>ns x.1) (fun _=>?_) (fun _=>?_)
     ·cases r with
      | nil=>exact h.turn' (by omega) (by decide)
      | cons x r=>
        obtain⟨d,q⟩:=x;exact eF (fun x:fK×Bool=>ns x.1) (fun _=>h.turn' (by omega) (by decide)) (fun _=>h.turn' (by omega) (by decide))
     ·refine eF (fun x:fK×Bool=>ns x.1) (fun _=>ht) (fun _=>?_)
      cases r with
      | nil=>exact ht
      | cons x r=>obtain⟨d,q⟩:=x;exact mL _ _ _ _ _ _ ht
    ·refine eF (fun x:fK×Bool=>ns x.1) (fun _=>?_) (fun _=>?_)
     ·exact eF (fun x:fK×Bool=>ns x.1) (fun _=>h.turn' (by omega) (by decide)) (fun _=>mL _ _ _ _ _ _ (h.turn' (by omega) (by decide)))
     ·refine eF (fun x:fK×Bool=>ns x.1) (fun _=>?_) (fun _=>mL _ _ _ _ _ _ h);exact eF (fun x:fK×Bool=>ns x.1) (fun _=>h.tail' (by omega)) (fun _=>mL _ _ _ _ _ _ (h.turn' (by omega) (by decide)))
theorem vU (st:fK) (f:Bool) (c b:UInt8) (at_:Int):(ez st f c b at_).1.length≤st.length+1:=by
  unfold ez
  repeat' (refine eF (fun x:fK×Bool=>x.1.length≤st.length+1) (fun _=>?_) (fun _=>?_))
  all_goals (simp;try omega)
theorem mK (st:fK) (f:Bool) (c b:UInt8) (at_:Int):(dZ st f c b at_).1.length≤st.length+1:=by
  have h0:=vU st f c b at_;unfold dZ
  repeat' (refine eF (fun x:fK×Bool=>x.1.length≤st.length+1) (fun _=>?_) (fun _=>?_))
  all_goals first
    | exact h0
    | (simp;done)
    | (simp;omega)
    | (cases st<;>simp)
theorem CL (st:fK) (f:Bool) (b:UInt8) (at_:Int):(f9 st f b at_).1.length≤st.length+1:=by
  match st with
  | []=>simp[f9]
  | (c,p)::r=>
    have h1:=mK ((c,p)::r) f c b at_;have h2:=mK ((67,p)::r) f 67 b at_;have h3:=mK ((65,p)::r) f 65 b at_;unfold f9;refine eF (fun x:fK×Bool=>x.1.length≤r.length+1+1) (fun hc=>?_) (fun _=>?_)
    ·refine eF (fun x:fK×Bool=>x.1.length≤r.length+1+1) (fun _=>by simp) (fun _=>?_);refine eF (fun x:fK×Bool=>x.1.length≤r.length+1+1) (fun _=>?_) (fun _=>?_)
     ·cases r with
      | nil=>simp
      | cons x r=>exact eF (fun x:fK×Bool=>x.1.length≤_) (fun _=>by simp) (fun _=>by simp)
     ·refine eF (fun x:fK×Bool=>x.1.length≤r.length+1+1) (fun _=>by simp;omega) (fun _=>?_)
      cases r with
      | nil=>simp
      | cons x r=>exact Nat.le_succ_of_le (mK _ _ _ _ _)
    ·refine eF (fun x:fK×Bool=>x.1.length≤r.length+1+1) (fun _=>?_) (fun _=>?_)
     ·exact eF (fun x:fK×Bool=>x.1.length≤_) (fun _=>by simp) (fun _=>h2)
     ·refine eF (fun x:fK×Bool=>x.1.length≤r.length+1+1) (fun _=>?_) (fun _=>h1);exact eF (fun x:fK×Bool=>x.1.length≤_) (fun _=>by simp;omega) (fun _=>h3)
def iA (l:List UInt8):Nat→fK×Bool
  | 0=>([(84,0)],true)
  | k+1=>f9 (iA l k).1 (iA l k).2 (l.getD k 0) k
theorem ou (l:List UInt8):∀k,ns (iA l k).1
  | 0=>rfl
  | k+1=>CM _ _ _ _ (ou l k)
theorem mM (l:List UInt8):∀k,(iA l k).1.length≤k+1
  | 0=>by simp[iA]
  | k+1=>by
    have h1:=CL (iA l k).1 (iA l k).2 (l.getD k 0) k;have h2:=mM l k;simp only[iA];omega
def AY (c:UInt8):Bool:=[84,67,80,66,68,86,73,65,82].contains c
def zw (c:UInt8):Bool:=[84,67,80,79,83,68,66,86,73,65,82,69,76,88,35].contains c
theorem sP (c:UInt8) (h:AY c=true):zw c=true:=by
  have:=gh (fun c => !AY c||zw c) (by decide +kernel) c
  simpa [h] using this
theorem Ma (c:UInt8) (hv:zw c=true) (h1:c.toNat≠79) (h2:c.toNat≠69) (h3:c.toNat≠76) (h4:c.toNat≠88) (h5:c.toNat≠83) (h6:c.toNat≠35):AY c=true:=by
  have:=gh (fun c => !zw c||c.toNat==79||c.toNat==69||c.toNat==76||c.toNat==88||c.toNat==83||c.toNat==35||AY c) (by decide +kernel) c
  simpa [hv,h1,h2,h3,h4,h5,h6] using this
def oP:fK→Prop
  | []=>True
  | (c,_)::r=>zw c=true∧∀y∈r,AY y.1=true
theorem oP.of_mid (h:∀y∈r,AY y.1=true):oP r:=by
  cases r with
  | nil=>trivial
  | cons x r=>exact⟨sP _ (h x (by simp)),fun y hy=>h y (by simp[hy])⟩
theorem oP.push (hd:zw d=true) (hc:AY c=true) (h:∀y∈r,AY y.1=true):oP ((d,q)::(c,p)::r):=
  ⟨hd,fun y hy=>by
    rcases bj.1 hy with rfl|hy
    ·exact hc
    ·exact h y hy⟩
theorem oP.turn (hd:zw d=true) (h:∀y∈r,AY y.1=true):oP ((d,q)::r):=⟨hd,h⟩
theorem NC (c:UInt8) (h:c.toNat=66):AY c=true:=by
  have:=gh (fun c => !(c.toNat==66)||AY c) (by decide +kernel) c
  simpa [h] using this
theorem pR (r:fK) (f:Bool) (c b:UInt8) (p at_:Int) (hv:zw c=true) (h79:c.toNat≠79) (h69:c.toNat≠69) (h76:c.toNat≠76) (h:∀y∈r,AY y.1=true):oP (dZ ((c,p)::r) f c b at_).1:=by
  unfold dZ
  repeat' (refine eF (fun x:fK×Bool=>oP x.1) (fun _=>?_) (fun _=>?_))
  all_goals first
    | exact rProgram_v _ _ _ _ _ _ hv (mid3 c (by omega)) h
    | exact⟨hv,h⟩
    | exact oP.of_mid h
    | exact oP.turn (by decide) h
    | exact oP.push (by decide) (NC c (by omega)) h
    | exact oP.push (by decide) (Ma c hv h79 h69 h76 (by omega) (by omega) (by omega)) h
theorem FC (d:UInt8) (h:AY d=true):d.toNat≠79∧d.toNat≠69∧d.toNat≠76:=by
  have:=gh (fun c => !AY c||(c.toNat != 79&&c.toNat != 69&&c.toNat != 76)) (by decide +kernel) d
  simpa [h,and_assoc] using this
theorem IZ (st:fK) (f:Bool) (b:UInt8) (at_:Int) (h:oP st):oP (f9 st f b at_).1:=by
  match st,h with
  | [],_=>trivial
  | (c,p)::r,⟨hv,h⟩=>
    unfold f9;refine eF (fun x:fK×Bool=>oP x.1) (fun hc=>?_) (fun _=>?_)
    ·refine eF (fun x:fK×Bool=>oP x.1) (fun _=>oP.turn (by decide) h) (fun _=>?_);refine eF (fun x:fK×Bool=>oP x.1) (fun _=>?_) (fun _=>?_)
     ·cases r with
      | nil=>exact oP.turn (by decide) h
      | cons x r=>obtain⟨d,q⟩:=x;exact eF (fun x:fK×Bool=>oP x.1) (fun _=>oP.turn (by decide) h) (fun _=>oP.turn (by decide) h)
     ·refine eF (fun x:fK×Bool=>oP x.1) (fun _=>oP.of_mid h) (fun _=>?_)
      cases r with
      | nil=>trivial
      | cons x r=>
        obtain⟨d,q⟩:=x;have hd:=h (d,q) (by simp);obtain⟨h1,h2,h3⟩:=FC d hd;exact pR _ _ _ _ _ _ (sP _ hd) h1 h2 h3 (fun y hy=>h y (by simp[hy]))
    ·refine eF (fun x:fK×Bool=>oP x.1) (fun _=>?_) (fun _=>?_)
     ·exact eF (fun x:fK×Bool=>oP x.1) (fun _=>oP.turn (by decide) h) (fun _=>pR _ _ _ _ _ _ (by decide) (by decide) (by decide) (by decide) h)
     ·refine eF (fun x:fK×Bool=>oP x.1) (fun _=>?_) (fun _=>pR _ _ _ _ _ _ hv (by omega) (by omega) (by omega) h);exact eF (fun x:fK×Bool=>oP x.1) (fun _=>oP.of_mid h) (fun _=>pR _ _ _ _ _ _ (by decide) (by decide) (by decide) (by decide) h)
theorem uO (l:List UInt8):∀k,oP (iA l k).1
  | 0=>⟨by decide,by simp⟩
  | k+1=>IZ _ _ _ _ (uO l k)
def rL (st:fK) (c:UInt8):Bool:=
  iO c&&(match st with
    | [_]=>true
    | [(d,_),_]=>decide (d.toNat=76)&&decide (c.toNat≠40)
    | _=>false)
def lH (stop:Nat→Bool):Nat→Nat→Nat
  | 0,k=>k
  | m+1,k=>if stop k=true then k else lH stop m (k+1)
theorem Dh {k:Nat} (h:stop k=true):lH stop m k=k:=by
  cases m with
  | zero=>rfl
  | succ m=>simp[lH,h]
theorem J5 {k:Nat} (h:stop k=false) (hm:0<m):lH stop m k=lH stop (m-1) (k+1):=by
  cases m with
  | zero=>omega
  | succ m=>simp[lH,h]
def OB (c:UInt8):Prop:=c.toNat=84∨c.toNat=67∨c.toNat=80
def Hd (st:fK):Prop:=∀c p r,st=(c,p)::r→OB c
def FO (st:fK):Prop:=∀c p r,st=(c,p)::r→OB c∨c.toNat=79∨((c.toNat=88∨c.toNat=35)∧Hd r)
def AO:fK→Prop
  | []=>True
  | (c,_)::r=>((c.toNat=80∨c.toNat=35)→Hd r)∧AO r
theorem Hd.of (h:OB c):Hd ((c,p)::r):=by
  rintro _ _ _ ⟨rfl,rfl⟩;exact h
theorem FO.x (h:c.toNat=88∨c.toNat=35) (hr:Hd r):FO ((c,p)::r):=by
  rintro _ _ _ ⟨rfl,rfl⟩;exact .inr (.inr ⟨h,hr⟩)
theorem AO.push (h:c.toNat≠80∧c.toNat≠35) (hr:AO r):AO ((c,p)::r):=⟨fun h'=>by omega,hr⟩
def BI:fK→Prop
  | []=>False
  | [(c,_)]=>c.toNat=79∨c.toNat=67∨c.toNat=65
  | _::y::r=>BI (y::r)
theorem BI.ne {x:fK} (h:BI x):x≠[]:=by rintro rfl;exact h
theorem BI.push {x:fK} (h:BI x):BI ((c,p)::x):=by
  cases x with
  | nil=>exact h.elim
  | cons y r=>exact h
def Ky (PB:Int→Prop) (x:fK×Bool):Prop:=∀y∈x.1,PB y.2
theorem Ky.cons {PB:Int→Prop} {c:UInt8} {q:Int} {st:fK} {f g:Bool} (h:Ky PB (st,f)) (ha:PB q):Ky PB ((c,q)::st,g):=by
  intro y hy;rcases bj.1 hy with rfl|hy
  ·exact ha
  ·exact h y hy
theorem Ky.tail {f:Bool} (h:Ky PB (st,f)):Ky PB (st.tail,g):=fun y hy=>h y (List.mem_of_mem_tail hy)
theorem Ky.any {f:Bool} (h:Ky PB (st,f)):Ky PB (st,g):=h
abbrev fu (st:fK):List Int:=st.map (·.2)
def oQ (ps:List Int) (a:Int) (x:fK×Bool):Prop:=∃m,fu x.1=ps.drop m∨fu x.1=a::ps.drop m
theorem oQ.same {f:Bool} {a:Int} (h:fu st'=fu st):oQ (fu st) a (st',f):=⟨0,.inl h⟩
theorem oQ.push {f:Bool} {a:Int}:oQ (fu st) a ((c,a)::st,f):=⟨0,.inr rfl⟩
theorem oQ.tail {f:Bool} {a:Int}:oQ (fu st) a (st.tail,f):=⟨1,.inl (by simp[fu,List.drop_one,List.map_tail])⟩
theorem oQ.deep {a:Int} {x:fK×Bool} (h:oQ (fu st) a x):oQ (fu (y::st)) a x:=by
  obtain⟨m,h⟩:=h;exact⟨m+1,by simpa [fu] using h⟩
theorem pS (st:fK) (f:Bool) (c b:UInt8) (a:Int):oQ (fu st) a (dZ st f c b a):=by
  unfold dZ
  repeat' (refine eF (oQ (fu st) a) (fun _=>?_) (fun _=>?_))
  all_goals first
    | exact rProgram_q _ _ _ _ _
    | exact oQ.push
    | exact oQ.tail
    | exact oQ.same rfl
    | (refine oQ.same ?_;cases st<;>rfl)
theorem I1 (st:fK) (f:Bool) (b:UInt8) (a:Int):oQ (fu st) a (f9 st f b a):=by
  match st with
  | []=>exact oQ.same rfl
  | (c,p)::r=>
    unfold f9;refine eF (oQ (fu ((c,p)::r)) a) (fun _=>?_) (fun _=>?_)
    ·refine eF (oQ (fu ((c,p)::r)) a) (fun _=>oQ.same rfl) (fun _=>?_);refine eF (oQ (fu ((c,p)::r)) a) (fun _=>?_) (fun _=>?_)
     ·cases r with
      | nil=>exact oQ.same rfl
      | cons y r=>exact eF (oQ (fu ((c,p)::y::r)) a) (fun _=>oQ.same rfl) (fun _=>oQ.same rfl)
     ·refine eF (oQ (fu ((c,p)::r)) a) (fun _=>(oQ.same rfl).deep) (fun _=>?_)
      cases r with
      | nil=>exact(oQ.same rfl).deep
      | cons y r=>exact(pS _ _ _ _ _).deep
    ·refine eF (oQ (fu ((c,p)::r)) a) (fun _=>?_) (fun _=>?_)
     ·exact eF (oQ (fu ((c,p)::r)) a) (fun _=>oQ.same rfl) (fun _=>pS ((67,p)::r) _ _ _ _)
     ·refine eF (oQ (fu ((c,p)::r)) a) (fun _=>?_) (fun _=>pS _ _ _ _ _);exact eF (oQ (fu ((c,p)::r)) a) (fun _=>(oQ.same rfl).deep) (fun _=>pS ((65,p)::r) _ _ _ _)
def XT (l:List UInt8) (k:Nat):fK:=(iA l k).1.dropLast
def FT (l:List UInt8) (k:Nat):fK:=(XT l k).reverse
theorem Dm (h:ns st):∃p,st=st.dropLast++[(84,p)]:=by
  induction st with
  | nil=>exact h.elim
  | cons x r ih=>
    cases r with
    | nil=>obtain⟨c,p⟩:=x;obtain rfl:c=84:=h;exact⟨p,rfl⟩
    | cons y r=>
      obtain⟨p,hp⟩:=ih h.2;exact⟨p,by rw[List.dropLast_cons_cons,bH,←hp]⟩
def sr (x:fK×Bool):Prop:=∀y∈x.1,y.1=84→y.2=0
theorem sr.cons {c:UInt8} {q:Int} {st:fK} {f g:Bool} (h:sr (st,f)) (hc:c≠84):sr ((c,q)::st,g):=by
  intro y hy e;rcases bj.1 hy with rfl|hy
  ·exact absurd e hc
  ·exact h y hy e
theorem sr.tail {f:Bool} (h:sr (st,f)):sr (st.tail,g):=fun y hy=>h y (List.mem_of_mem_tail hy)
theorem sr.any {f:Bool} (h:sr (st,f)):sr (st,g):=h
theorem pQ (st:fK) (f:Bool) (c b:UInt8) (a:Int) (h:sr (st,f)):sr (dZ st f c b a):=by
  unfold dZ
  repeat' (refine eF sr (fun _=>?_) (fun _=>?_))
  all_goals first
    | exact rProgram_z st f c b a h
    | exact h.any
    | exact h.cons (by decide)
    | exact h.tail
    | (cases st with
       | nil=>exact h.any
       | cons y r=>exact sr.cons (f:=f) (fun z hz=>h z (cj _ hz)) (by decide))
theorem IY (st:fK) (f:Bool) (b:UInt8) (a:Int) (h:sr (st,f)):sr (f9 st f b a):=by
  match st,h with
  | [],h=>exact h
  | (c,p)::r,h=>
    have hr:sr (r,f):=fun z hz=>h z (cj _ hz)
    unfold f9;refine eF sr (fun _=>?_) (fun _=>?_)
    ·refine eF sr (fun _=>hr.cons (by decide)) (fun _=>?_);refine eF sr (fun _=>?_) (fun _=>?_)
     ·cases r with
      | nil=>exact hr.cons (by decide)
      | cons y r=>exact eF sr (fun _=>hr.cons (by decide)) (fun _=>hr.cons (by decide))
     ·refine eF sr (fun _=>hr) (fun _=>?_)
      cases r with
      | nil=>exact hr
      | cons y r=>exact pQ _ _ _ _ _ hr
    ·refine eF sr (fun _=>?_) (fun _=>?_)
     ·exact eF sr (fun _=>hr.cons (by decide)) (fun _=>pQ _ _ _ _ _ (hr.cons (by decide)))
     ·refine eF sr (fun _=>?_) (fun _=>pQ _ _ _ _ _ h);exact eF sr (fun _=>hr) (fun _=>pQ _ _ _ _ _ (hr.cons (by decide)))
theorem KO (l:List UInt8):∀k:Nat,sr (iA l k)
  | 0=>by intro y hy _;simp[iA] at hy;rw[hy]
  | k+1=>IY _ _ _ _ (KO l k)
theorem jL:(iA l k).1=XT l k++[(84,0)]:=by
  obtain⟨p,hp⟩:=Dm (ou l k);have h0:p=0:=KO l k (84,p) (by rw[hp];simp) rfl;subst h0;exact hp
theorem Hw:(iA l k).1.length=(XT l k).length+1:=by rw[jL];simp
theorem I3:(iA l k).1.reverse=(84,0)::FT l k:=by rw[jL];simp[FT]
theorem Co:∃m,fu (XT l (k+1))=(fu (XT l k)).drop m∨fu (XT l (k+1))=(k:Int)::(fu (XT l k)).drop m:=by
  obtain⟨m,h⟩:=I1 (iA l k).1 (iA l k).2 (l.getD k 0) k;have h':fu (iA l (k+1)).1=(fu (iA l k).1).drop m∨fu (iA l (k+1)).1=(k:Int)::(fu (iA l k).1).drop m:=h;rw[jL l (k+1),jL l k] at h';simp only[fu,bG,cF,List.map_nil] at h' ⊢;generalize (XT l (k+1)).map (·.2)=A at h' ⊢;generalize (XT l k).map (·.2)=B at h' ⊢;by_cases hm:m≤B.length
  ·rw[List.drop_append_of_le_length hm] at h';refine⟨m,h'.imp (fun e=>(List.append_left_inj _).1 e) (fun e=>?_)⟩;rw[←bH] at e
   exact(List.append_left_inj _).1 e
  ·rw[dD (by simp;omega)] at h';refine⟨B.length,.inl ?_⟩;rcases h' with e|e
   ·simp at e
   ·cases A with
    | nil=>simp
    | cons x A=>have:=congrArg List.length e;simp at this
theorem wX (l:List UInt8):∀k:Nat,(fu (XT l k)).Pairwise (· > ·)∧∀p∈fu (XT l k),0≤p∧p<(k:Int)
  | 0=>⟨List.Pairwise.nil,by intro p hp;simp[XT,iA,fu] at hp⟩
  | k+1=>by
    obtain⟨h1,h2⟩:=wX l k;obtain⟨m,h|h⟩:=Co l k
    ·rw[h];exact⟨h1.sublist (List.drop_sublist _ _),fun p hp=>by have:=h2 p (di hp);omega⟩
    ·rw[h];refine⟨List.Pairwise.cons (fun p hp=>by have:=h2 p (di hp);show (k:Int)>p;omega) (h1.sublist (List.drop_sublist _ _)),fun p hp=>?_⟩;rcases bj.1 hp with rfl|hp
     ·omega
     ·have:=h2 p (di hp);omega
theorem oR:(fu (FT l k)).Pairwise (· < ·)∧∀p∈fu (FT l k),0≤p∧p<(k:Int):=by
  obtain⟨h1,h2⟩:=wX l k;have e:fu (FT l k)=(fu (XT l k)).reverse:=by simp[fu,FT]
  rw[e];exact⟨List.pairwise_reverse.2 h1,fun p hp=>h2 p (List.mem_reverse.1 hp)⟩
theorem KA:∃j,j≤(FT l k).length∧(fu (FT l (k+1))=(fu (FT l k)).take j∨fu (FT l (k+1))=(fu (FT l k)).take j++[(k:Int)]):=by
  obtain⟨m,h⟩:=Co l k;have e:∀k,fu (FT l k)=(fu (XT l k)).reverse:=by intro k;simp[fu,FT]
  refine⟨(FT l k).length-m,by omega,?_⟩;rw[e,e];have hl:(FT l k).length=(fu (XT l k)).length:=by simp[FT,fu]
  rw[hl,←List.reverse_drop];rcases h with h|h
  ·left;rw[h]
  ·right;rw[h];simp
structure fP where
  mode:Int
  fr:Int
  to:Int
  up:Int
  op:Bool
def dP:fP:=⟨0,0,0,0,false⟩
def lq (m:Int):Int:=if m=3 then 1 else if m=11 then 9 else m
def zv (c:UInt8):Int:=lq (fg c)
abbrev iE (l:List fP):List Int:=l.map (·.fr)
def iH (l:List fP) (p:Int):Nat:=(iE l).idxOf p
def qD (F:fK) (p:Int):Option UInt8:=(F.find? (fun x=>x.2==p)).map (·.1)
def su (F:fK) (k1:Int) (q:fP):fP:=
  if q.op=true then (match qD F q.fr with
    | some c=>{q with mode:=zv c}
    | none=>{q with to:=k1,op:=false})
  else q
def DC (F:fK) (l:List fP):Int:=match F.dropLast.getLast? with
  | none => -1
  | some y=>(iH l y.2:Int)
def mR (F:fK) (k:Int) (l:List fP):List fP:=match F.getLast? with
  | none=>[]
  | some y=>if y.2=k then [⟨zv y.1,k,0,DC F l,true⟩] else []
def eZ (l:List UInt8):Nat→List fP
  | 0=>[]
  | k+1=>(eZ l k).map (su (FT l (k+1)) ((k:Int)+1))++mR (FT l (k+1)) k (eZ l k)
theorem zA (F:fK) (k1:Int) (q:fP):(su F k1 q).fr=q.fr:=by
  unfold su;split
  ·split<;>rfl
  ·rfl
theorem B6 (F:fK) (k1:Int) (l:List fP):iE (l.map (su F k1))=iE l:=by
  simp only[iE,dA];exact cw fun q _=>zA F k1 q
theorem tY (h:p∈fu F):∃c,qD F p=some c∧(c,p)∈F:=by
  obtain⟨y,hy,he⟩:=bZ.1 h
  cases hf:F.find? (fun x=>x.2==p) with
  | none=>have:=dQ.1 hf y hy;simp[he] at this
  | some z=>
    have h1:=List.find?_some hf;have h2:=List.mem_of_find?_eq_some hf;simp at h1;obtain⟨c,q⟩:=z;simp at h1;subst h1;exact⟨c,by unfold qD;rw[hf];rfl,h2⟩
theorem pD (h:p∉fu F):qD F p=none:=by
  unfold qD;rw[dQ.2]
  ·rfl
  ·intro y hy;simp only[bA];intro e;exact h (bZ.2 ⟨y,hy,e⟩)
theorem oB {k:Int} {l:List fP} (h:F=G++[(c,k)]):mR F k l=[⟨zv c,k,0,DC F l,true⟩]:=by
  subst h;simp[mR]
theorem oC {k:Int} {l:List fP} (h:∀p∈fu F,p≠k):mR F k l=[]:=by
  unfold mR
  cases hg:F.getLast? with
  | none=>rfl
  | some y=>
    have:y∈F:=List.mem_of_getLast? hg
    simp only;rw[aC (h y.2 (bZ.2 ⟨y,this,rfl⟩))]
theorem mH:∃(j:Nat) (A B:fK),FT l (k+1)=A++B∧j≤(FT l k).length∧fu A=(fu (FT l k)).take j∧(B=[]∨∃c,B=[(c,(k:Int))]):=by
  obtain⟨j,hj,h⟩:=KA l k;refine⟨j,(FT l (k+1)).take j,(FT l (k+1)).drop j,(cE _ _).symm,hj,?_,?_⟩
  ·rw[fu,List.map_take];rcases h with h|h
   ·rw[show (FT l (k+1)).map (·.2)=_ from h,List.take_take,Nat.min_self]
   ·rw[show (FT l (k+1)).map (·.2)=_ from h,List.take_append_of_le_length (by simp[fu];omega),List.take_take,Nat.min_self]
  ·have e:fu ((FT l (k+1)).drop j)=(fu (FT l (k+1))).drop j:=by simp[fu,List.map_drop]
   rcases h with h|h
   ·left
    rw[h,List.drop_take] at e;simpa [fu] using e
   ·right
    rw[h,List.drop_append,List.drop_take] at e;simp only[bz,fu,bE,cU hj,dB,List.take_zero,cK,dO] at e
    match hd:(FT l (k+1)).drop j,e with
    | [(c,p)],e=>simp at e;exact⟨c,by rw[e]⟩
structure CI (l:List UInt8) (k:Nat):Prop where
  rise:(iE (eZ l k)).Pairwise (· < ·)
  bnd:∀p∈iE (eZ l k),0≤p∧p<(k:Int)
  opn:∀q∈eZ l k,(q.op=true↔q.fr∈fu (FT l k))
  sub:∀p∈fu (FT l k),p∈iE (eZ l k)
theorem yK (F:fK) (k:Int) (l:List fP):iE (mR F k l)=[]∨iE (mR F k l)=[k]:=by
  unfold mR;split
  ·exact .inl rfl
  ·split
   ·exact .inr rfl
   ·exact .inl rfl
theorem jP:iE (eZ l (k+1))=iE (eZ l k)++iE (mR (FT l (k+1)) k (eZ l k)):=by
  simp only[eZ,iE,bG];congr 1;exact B6 _ _ _
theorem Ll {k1:Int} {q:fP}:(su F k1 q).op=true↔q.op=true∧q.fr∈fu F:=by
  unfold su;by_cases ho:q.op=true
  ·rw[aB ho];by_cases hm:q.fr∈fu F
   ·obtain⟨c,hc,_⟩:=tY hm;rw[hc];simp[ho,hm]
   ·rw[pD hm];simp[hm]
  ·rw[aC ho];simp[ho]
theorem mE (l:List UInt8):∀k,CI l k
  | 0=>⟨List.Pairwise.nil,by intro p hp;simp[eZ,iE] at hp,by intro q hq;simp[eZ] at hq,by intro p hp;simp[FT,XT,iA,fu] at hp⟩
  | k+1=>by
    have ih:=mE l k;obtain⟨j,A,B,hF,hj,hA,hB⟩:=mH l k;have hr:=(oR l k);have hkP:(k:Int)∉fu (FT l k):=fun h=>by have:=hr.2 _ h;omega
    have hkC:(k:Int)∉iE (eZ l k):=fun h=>by have:=ih.bnd _ h;omega
    have hAsub:∀p∈fu A,p∈fu (FT l k):=fun p hp=>by rw[hA] at hp;exact cC hp
    refine⟨?_,?_,?_,?_⟩
    ·rw[jP];rcases yK (FT l (k+1)) k (eZ l k) with h|h
     ·rw[h,bB];exact ih.rise
     ·rw[h,List.pairwise_append];exact⟨ih.rise,List.pairwise_singleton _ _,fun a ha b hb=>by simp at hb;subst hb;exact(ih.bnd a ha).2⟩
    ·intro p hp;rw[jP] at hp;rcases bM.1 hp with hp|hp
     ·have:=ih.bnd p hp;omega
     ·rcases yK (FT l (k+1)) k (eZ l k) with h|h
      ·rw[h] at hp;cases hp
      ·rw[h] at hp;simp at hp;omega
    ·intro q hq;simp only[eZ] at hq;rcases bM.1 hq with hq|hq
     ·obtain⟨q0,hq0,rfl⟩:=bZ.1 hq;rw[Ll,zA,ih.opn q0 hq0];constructor
      ·exact fun h=>h.2
      ·intro h;refine⟨?_,h⟩;rw[hF,fu,bG] at h;rcases bM.1 h with h|h
       ·exact hAsub _ h
       ·exfalso;rcases hB with rfl|⟨c,rfl⟩
        ·cases h
        ·simp at h;exact hkC (h▸bZ.2 ⟨q0,hq0,rfl⟩)
     ·rcases hB with rfl|⟨c,rfl⟩
      ·rw[oC] at hq
       ·cases hq
       ·intro p hp e;subst e;rw[hF,bB] at hp;exact hkP (hAsub _ hp)
      ·rw[oB hF] at hq;simp at hq;subst hq;simp[hF,fu]
    ·intro p hp;rw[jP];rw[hF,fu,bG] at hp;rcases bM.1 hp with hp|hp
     ·exact List.mem_append_left _ (ih.sub p (hAsub p hp))
     ·rcases hB with rfl|⟨c,rfl⟩
      ·cases hp
      ·rw[oB hF];exact List.mem_append_right _ (by simpa [iE] using hp)
def jz (fs:List (Int×Int)) (a:Int):Nat→List fP→List Nat→List fP×List Nat
  | 0,l,h=>(l,h)
  | n+1,l,h=>
    if n+1≤fs.length∧(fs.getD n (0,0)).2=(l.getD (h.getD n 0) dP).fr then (l,h)
    else jz fs a n (l.set (h.getD n 0) {l.getD (h.getD n 0) dP with to:=a+1,op:=false}) (h.take n)
def fS:List (Int×Int)→Nat→List fP→List Nat→List fP×List Nat
  | [],_,l,h=>(l,h)
  | f::fs,i,l,h=>
    if i<h.length then fS fs (i+1) (l.set (h.getD i 0) {l.getD (h.getD i 0) dP with mode:=lq f.1}) h
    else fS fs (i+1) (l++[⟨lq f.1,f.2,0,if 0<i then ((h.getD (i-1) 0:Nat):Int) else -1,true⟩]) (h++[l.length])
def zP (fs:List (Int×Int)) (a:Int) (l:List fP) (h:List Nat):List fP×List Nat:=
  let x:=jz fs a h.length l h
  fS fs 0 x.1 x.2
theorem AD {l:List fP} (h:p∈iE l):iH l p<l.length:=by
  have:=List.idxOf_lt_length_of_mem h
  simpa [iH,iE] using this
theorem F1 {l:List fP} (h:p∈iE l):(l.getD (iH l p) dP).fr=p:=by
  have hl:=AD h;have h1:(iE l)[iH l p]'(by simpa [iE] using hl)=p:=List.getElem_idxOf (List.idxOf_lt_length_of_mem h);rw[aF,ax hl];simpa [iE] using h1
theorem Er {l:List fP} (hr:(iE l).Pairwise (· < ·)) (hi:i<l.length) (hj:j<l.length) (e:l[i].fr=l[j].fr):i=j:=by
  rcases Nat.lt_trichotomy i j with h|h|h
  ·have:=dr.1 hr i j (by simpa [iE] using hi) (by simpa [iE] using hj) h
   simp[iE] at this;omega
  ·exact h
  ·have:=dr.1 hr j i (by simpa [iE] using hj) (by simpa [iE] using hi) h
   simp[iE] at this;omega
theorem Bu {l:List fP} (hr:(iE l).Pairwise (· < ·)) (hp:p∈iE l) (f:fP→fP):l.set (iH l p) (f (l.getD (iH l p) dP))=l.map fun q=>if q.fr=p then f q else q:=by
  have hl:=AD hp;have hf:=F1 hp;apply List.ext_getElem (by simp);intro i h1 h2;have hi:i<l.length:=by simpa using h1
  rw[List.getElem_map];by_cases e:i=iH l p
  ·subst e;rw[List.getElem_set_self,aF,ax hl] at *;simp only[Option.getD_some] at hf ⊢;rw[aB hf]
  ·rw[List.getElem_set_ne (Ne.symm e)];rw[aC];intro e2;apply e;apply Er hr hi hl;rw[e2];rw[aF,ax hl] at hf;exact hf.symm
def pG (a:Int) (q:fP):fP:={q with to:=a+1,op:=false}
theorem AI (P:fP→Prop) [DecidablePred P] (f:fP→fP) (hf:∀q,(f q).fr=q.fr) (l:List fP):iE (l.map fun q=>if P q then f q else q)=iE l:=by
  simp only[iE,dA];refine cw fun q _=>?_
  simp only[Function.comp];split
  ·exact hf q
  ·rfl
theorem CF (hP:P.Nodup) (j:Nat) (hj:j≤P.length) (hfs:fs.map (·.2)=P.take j∨∃k,k∉P∧fs.map (·.2)=P.take j++[k]) :
    ∀(n:Nat) (l:List fP),j≤n→n≤P.length→(iE l).Pairwise (· < ·)→(∀p∈P,p∈iE l) →
     jz fs a n l ((P.map (iH l)).take n)=(l.map (fun q=>if q.fr∈(P.take n).drop j then pG a q else q),(P.map (iH l)).take j):=by
  have hfl:fs.length=j∨(fs.length=j+1∧∃k,k∉P∧fs.map (·.2)=P.take j++[k]):=by
    rcases hfs with h|⟨k,hk,h⟩
    ·left;have:=congrArg List.length h;simp at this;omega
    ·right;refine⟨?_,k,hk,h⟩;have:=congrArg List.length h;simp at this;omega
  have hat:∀i,i<j→(fs.getD i (0,0)).2=P.getD i 0:=by
    intro i hi;have h1:(fs.map (·.2))[i]? = P[i]? := by
      rcases hfs with h|⟨k,hk,h⟩
      ·rw[h,cG,aB hi]
      ·rw[h,aU (by simp;omega),cG,aB hi]
    rw[aV] at h1;rw[aF,aF,←h1]
    cases h2:fs[i]? with
    | none=>
      exfalso;rw[List.getElem?_eq_none_iff] at h2;omega
    | some x=>rfl
  intro n
  induction n with
  | zero=>
    intro l h0 _ hr hs;obtain rfl:j=0:=by omega
    simp[jz]
  | succ n ih=>
    intro l h0 h1 hr hs;have hn:n<P.length:=by omega
    have hPn:P[n]∈iE l:=hs _ (List.getElem_mem hn);have hg:((P.map (iH l)).take (n+1)).getD n 0=iH l P[n]:=by
      rw[aF,cG,aB (by omega),aV,ax hn];rfl
    unfold jz;rw[hg,F1 hPn];by_cases hjn:j=n+1
    ·have hc:=hat n (by omega);rw[aF (l:=P),ax hn] at hc;rw[aB ⟨by rcases hfl with h|h<;>omega,hc⟩];rw[show (P.take (n+1)).drop j=[] by rw[hjn];simp];simp[hjn]
    ·have hne:¬(n+1≤fs.length∧(fs.getD n (0,0)).2=P[n]):=by
       rintro ⟨h2,h3⟩;rcases hfl with h|⟨h,k,hk,hfk⟩
       ·omega
       ·obtain rfl:n=j:=by omega
        have h4:(fs.map (·.2))[n]? = some k:=by
          rw[hfk,aP (by simp;omega)];simp[cU hj]
        rw[aV] at h4;rw[aF] at h3
        cases h5:fs[n]? with
        | none=>rw[h5] at h4;cases h4
        | some x=>
          rw[h5] at h3 h4;simp at h3 h4;exact hk (by rw[←h4,h3];exact List.getElem_mem hn)
     rw[aC hne];have hset:=Bu hr hPn (pG a);unfold pG at hset;rw[hset];have hfr:iE (l.map fun q=>if q.fr=P[n] then ({q with to:=a+1,op:=false}:fP) else q)=iE l:=AI (fun q=>q.fr=P[n]) (pG a) (fun _=>rfl) l;have hix:∀p,iH (l.map fun q=>if q.fr=P[n] then ({q with to:=a+1,op:=false}:fP) else q) p=iH l p:=fun p=>by unfold iH;rw[hfr]
     have hih:=ih (l.map fun q=>if q.fr=P[n] then ({q with to:=a+1,op:=false}:fP) else q) (by omega) (by omega) (by rw[hfr];exact hr) (by rw[hfr];exact hs);have hmap:P.map (iH (l.map fun q=>if q.fr=P[n] then ({q with to:=a+1,op:=false}:fP) else q))=P.map (iH l):=cw fun p _=>hix p
     rw[hmap] at hih;rw[List.take_take,cU (by omega),hih];congr 1;rw[dA];refine cw fun q _=>?_
     have hsp:(P.take (n+1)).drop j=(P.take n).drop j++[P[n]]:=by
       rw[bS hn,List.drop_append_of_le_length (by simp;omega)]
     have hnd:P[n]∉(P.take n).drop j:=by
       intro hm;have hm':=di hm;rw[dm] at hP;obtain⟨i,hi,e⟩:=List.mem_take_iff_getElem.1 hm'
       have:=dr.1 hP i n (by omega) hn (by omega)
       exact this e
     rw[hsp];simp only[Function.comp];by_cases e:q.fr=P[n]
     ·rw[aB e,aC (show ¬({q with to:=a+1,op:=false}:fP).fr∈(P.take n).drop j by show ¬q.fr∈_;rw[e];exact hnd),aB (show q.fr∈(P.take n).drop j++[P[n]] by simp[e])];rfl
     ·rw[aC e];by_cases e2:q.fr∈(P.take n).drop j
      ·rw[aB e2,aB (by simp[e2])]
      ·rw[aC e2,aC (by simp[e2,e])]
def wV (A:List (Int×Int)) (q:fP):fP:=match A.find? (fun x=>x.2==q.fr) with
  | some x=>{q with mode:=lq x.1}
  | none=>q
theorem tm (B:List (Int×Int)):∀(A:List (Int×Int)) (i:Nat) (l:List fP) (h:List Nat),(iE l).Pairwise (· < ·)→(∀x∈A,x.2∈iE l)→(A.map (·.2)).Nodup →
    (∀t x,A[t]? = some x→h[i+t]? = some (iH l x.2))→fS (A++B) i l h=fS B (i+A.length) (l.map (wV A)) h
  | [],i,l,h,_,_,_,_=>by
    have:l.map (wV [])=l:=by
      rw[show (wV [])=id from funext fun q=>rfl,List.map_id]
    rw[this];rfl
  | f::A,i,l,h,hr,hm,hn,hh=>by
    have h0:=hh 0 f rfl;rw[cQ] at h0;have hil:i<h.length:=(az.1 h0).1;have hgi:h.getD i 0=iH l f.2:=by rw[aF,h0];rfl
    have hf:=hm f (by simp);rw[bH];have hu:fS (f::(A++B)) i l h=fS (A++B) (i+1) (l.set (h.getD i 0) {l.getD (h.getD i 0) dP with mode:=lq f.1}) h:=by rw[fS,aB hil]
    rw[hu,hgi];have hset:=Bu hr hf (fun q=>{q with mode:=lq f.1});rw[hset];have hfr:iE (l.map fun q=>if q.fr=f.2 then ({q with mode:=lq f.1}:fP) else q)=iE l:=AI (fun q=>q.fr=f.2) (fun q=>{q with mode:=lq f.1}) (fun _=>rfl) l;rw[cF,List.nodup_cons] at hn;rw[tm B A (i+1) _ h (by rw[hfr];exact hr) (fun x hx=>by rw[hfr];exact hm x (by simp[hx])) hn.2 (fun t x hx=>by
      unfold iH;rw[hfr]
      have:=hh (t+1) x (by simpa using hx)
      rw[show i+(t+1)=i+1+t by omega] at this;exact this)]
    rw[dA,aL,show i+1+A.length=i+(A.length+1) by omega];congr 1;refine cw fun q _=>?_
    simp only[Function.comp];by_cases e:q.fr=f.2
    ·rw[aB e];have e1:A.find? (fun x=>x.2==q.fr)=none:=by
       rw[dQ];intro x hx;simp only[bA];intro e2;exact hn.1 (bZ.2 ⟨x,hx,by rw[e2,e]⟩)
     unfold wV;simp only[e1];rw[List.find?_cons_of_pos (by simp[e])]
    ·rw[aC e];unfold wV;rw[List.find?_cons_of_neg (by simp;exact fun h=>e h.symm)]
def kh (l:List UInt8) (k:Nat):List Nat:=(fu (FT l k)).map (iH (eZ l k))
def oJ (F:fK):List (Int×Int):=F.map fun x=>(fg x.1,x.2)
theorem sW (F:fK):(oJ F).map (·.2)=fu F:=by simp[oJ,fu]
theorem tX (F:fK) (p:Int):(oJ F).find? (fun x=>x.2==p)=(F.find? (fun x=>x.2==p)).map fun x=>(fg x.1,x.2):=by
  unfold oJ;rw[List.find?_map];rfl
theorem CE:zP (oJ (FT l (k+1))) k (eZ l k) (kh l k)=(eZ l (k+1),kh l (k+1)):=by
  have ci:=mE l k;obtain⟨j,A,B,hF,hj,hA,hB⟩:=mH l k;have hr:=oR l k;have hnd:(fu (FT l k)).Nodup:=by rw[dm];exact hr.1.imp (fun h=>by omega)
  have hkP:(k:Int)∉fu (FT l k):=fun h=>by have:=hr.2 _ h;omega
  have hkC:(k:Int)∉iE (eZ l k):=fun h=>by have:=ci.bnd _ h;omega
  have hjl:j≤(fu (FT l k)).length:=by simpa [fu] using hj
  have hlen:(kh l k).length=(fu (FT l k)).length:=by simp[kh]
  have hpop:=CF (oJ (FT l (k+1))) k (fu (FT l k)) hnd j hjl (by
    rw[sW,hF,fu,bG];rw[show A.map (·.2)=_ from hA];rcases hB with rfl|⟨c,rfl⟩
    ·left;simp
    ·right;exact⟨k,hkP,rfl⟩) (fu (FT l k)).length (eZ l k) hjl (au _) ci.rise ci.sub
  rw[bR (au _),bR (by simp)] at hpop;unfold zP;rw[hlen];show (let x:=jz _ _ _ _ ((fu (FT l k)).map (iH (eZ l k)));fS _ 0 x.1 x.2)=_;rw[hpop];simp only;have hfsA:oJ (FT l (k+1))=oJ A++oJ B:=by rw[hF];simp[oJ]
  have hAmem:∀p∈fu A,p∈fu (FT l k):=fun p hp=>by rw[hA] at hp;exact cC hp
  have hfr1:iE ((eZ l k).map fun q=>if q.fr∈(fu (FT l k)).drop j then pG k q else q)=iE (eZ l k):=AI (fun q=>q.fr∈(fu (FT l k)).drop j) (pG k) (fun _=>rfl) _;have hAl:A.length=j:=by have:=congrArg List.length hA;simp[fu] at this;simp[fu] at hjl;omega
  rw[hfsA,tm (oJ B) (oJ A) 0 _ _ (by rw[hfr1];exact ci.rise) (fun x hx=>by
    rw[hfr1]
    have:x.2∈fu A:=by rw[←sW];exact bZ.2 ⟨x,hx,rfl⟩
    exact ci.sub _ (hAmem _ this)) (by rw[sW,hA];exact hnd.sublist (List.take_sublist _ _)) (fun t x hx=>by
    unfold iH;rw[hfr1,dv];have h1:(fu A)[t]? = some x.2:=by rw[←sW,aV,hx];rfl
    have ht:t<j:=by have:=(az.1 h1).1;rw[←hAl];simpa [fu] using this
    rw[hA,cG,aB ht] at h1;rw[cG,aB ht,aV,h1];rfl)]
  have hlist:(((eZ l k).map fun q=>if q.fr∈(fu (FT l k)).drop j then pG k q else q).map (wV (oJ A)))=(eZ l k).map (su (FT l (k+1)) ((k:Int)+1)):=by
    rw[dA];refine cw fun q hq=>?_
    have hqf:q.fr∈iE (eZ l k):=bZ.2 ⟨q,hq,rfl⟩;have hqk:q.fr≠(k:Int):=fun e=>hkC (e▸hqf)
    simp only[Function.comp];have htd:q.fr∈fu (FT l k)↔q.fr∈(fu (FT l k)).take j∨q.fr∈(fu (FT l k)).drop j:=by
      rw[←bM,cE]
    have hFmem:q.fr∈fu (FT l (k+1))↔q.fr∈fu A:=by
      rw[hF,fu,bG,bM];constructor
      ·rintro (h|h)
       ·exact h
       ·rcases hB with rfl|⟨c,rfl⟩
        ·cases h
        ·simp at h;exact absurd h hqk
      ·exact .inl
    have hopn:=ci.opn q hq;by_cases hd:q.fr∈(fu (FT l k)).drop j
    ·have hnt:q.fr∉fu A:=by
       rw[hA];intro ht;rw[←cE j (fu (FT l k))] at hnd
       exact(List.nodup_append.1 hnd).2.2 _ ht _ hd rfl
     rw[aB hd];have ho:q.op=true:=hopn.2 (htd.2 (.inr hd));have e1:(oJ A).find? (fun x=>x.2==(pG (k:Int) q).fr)=none:=by
       rw[tX,Option.map_eq_none_iff,dQ];intro y hy;simp only[bA];intro e;exact hnt (bZ.2 ⟨y,hy,e⟩)
     unfold wV su;rw[aB ho,pD (fun h=>hnt (hFmem.1 h))];simp only[e1];rfl
    ·rw[aC hd];by_cases ht:q.fr∈fu A
     ·have ho:q.op=true:=hopn.2 (hAmem _ ht);obtain⟨y,hy,hye⟩:=bZ.1 ht;have hsome:(A.find? (fun x=>x.2==q.fr)).isSome=true:=by
        rw[List.find?_isSome];exact⟨y,hy,by simp[hye]⟩
      obtain⟨z,hz⟩:=Option.isSome_iff_exists.1 hsome;have e1:(oJ A).find? (fun x=>x.2==q.fr)=some (fg z.1,z.2):=by rw[tX,hz];rfl
      have e2:qD (FT l (k+1)) q.fr=some z.1:=by unfold qD;rw[hF,List.find?_append,hz];rfl
      unfold wV su;rw[aB ho];simp only[e1,e2];rfl
     ·have hno:¬q.op=true:=fun h=>by
        rcases htd.1 (hopn.1 h) with h1|h1
        ·rw[←hA] at h1;exact ht h1
        ·exact hd h1
      have e1:(oJ A).find? (fun x=>x.2==q.fr)=none:=by
        rw[tX,Option.map_eq_none_iff,dQ];intro y hy;simp only[bA];intro e;exact ht (bZ.2 ⟨y,hy,e⟩)
      unfold wV su;rw[aC hno];simp only[e1]
  rw[hlist];have hhA:((fu (FT l k)).map (iH (eZ l k))).take j=(fu A).map (iH (eZ l k)):=by rw[hA,List.map_take]
  rw[hhA];have hixm:∀m:List fP,iE m=iE (eZ l k)→∀p,iH m p=iH (eZ l k) p:=fun m hm p=>by unfold iH;rw[hm]
  have hfu:iE ((eZ l k).map (su (FT l (k+1)) ((k:Int)+1)))=iE (eZ l k):=B6 _ _ _;have hfsl:(oJ A).length=j:=by simp[oJ,hAl]
  rw[dv,hfsl];have hold:∀p∈fu A,iH (eZ l (k+1)) p=iH (eZ l k) p:=by
    intro p hp;unfold iH;rw[jP,List.idxOf_append,aB (ci.sub p (hAmem p hp))]
  rcases hB with rfl|⟨c,rfl⟩
  ·have hnew:mR (FT l (k+1)) k (eZ l k)=[]:=oC (by
     intro p hp e;subst e;rw[hF,bB] at hp;exact hkP (hAmem _ hp))
   show fS [] _ _ _=_;rw[show eZ l (k+1)=(eZ l k).map (su (FT l (k+1)) ((k:Int)+1))++mR (FT l (k+1)) k (eZ l k) from rfl,hnew,bB];unfold fS kh;rw[dy];refine⟨rfl,?_⟩;rw[hF,bB]
   exact(cw fun p hp=>hold p hp).symm
  ·have hnew:=oB (k:=(k:Int)) (l:=eZ l k) hF;show fS [(fg c,(k:Int))] _ _ _=_;unfold fS;have hnl:¬j<((fu A).map (iH (eZ l k))).length:=by simp[fu,hAl]
   rw[aC hnl];unfold fS;rw[show eZ l (k+1)=(eZ l k).map (su (FT l (k+1)) ((k:Int)+1))++mR (FT l (k+1)) k (eZ l k) from rfl,hnew];rw[dy];constructor
   ·congr 1;simp only[dS,and_true];congr 1;unfold DC;rw[hF,List.dropLast_concat];rcases Nat.eq_zero_or_pos j with h0|h0
    ·have:A=[]:=bN (by omega)
     subst this;simp[h0]
    ·rw[aB h0];obtain⟨G,y,rfl⟩:∃G y,A=G++[y]:=by
       rcases List.eq_nil_or_concat A with h|⟨G,y,h⟩
       ·subst h;simp at hAl;omega
       ·exact⟨G,y,by simpa using h⟩
     simp at hAl;simp only[List.getLast?_append,List.getLast?_singleton,Option.some_or];rw[aF,aV]
     have:(fu (G++[y]))[j-1]? = some y.2:=by
       simp only[fu,bG,cF,List.map_nil];rw[aP (by simp;omega)];simp[show j-1-G.length=0 by omega]
     rw[this];rfl
   ·have hP1:fu (FT l (k+1))=fu A++[(k:Int)]:=by rw[hF];simp[fu]
    have hC:iE (eZ l (k+1))=iE (eZ l k)++[(k:Int)]:=by rw[jP,hnew];rfl
    unfold kh;rw[hP1,bG,cF,List.map_nil];congr 1
    ·exact(cw fun p hp=>(hold p hp).symm)
    ·rw[bE];unfold iH;rw[hC,List.idxOf_append,aC hkC];simp[iE]
def jD (c:UInt8):Bool:=decide (fI c=5)
def jh (c:UInt8):Bool:=decide (fI c=6)
def iN (c:UInt8):Bool:=jD c||jh c
def oD (l:List UInt8):Nat:=match l with
  | []=>0
  | c::_=>if jD c=true then (l.takeWhile iN).length else 0
def xA (c:UInt8):Bool:=[64,42,35,63,45,36,33].contains c
def yc (l:List UInt8):Nat:=if 0<oD l then oD l else match l with
  | []=>0
  | c::_=>if xA c=true∨jh c=true then 1 else 0
def rj (l:List UInt8) (i:Nat):Nat:=yc (l.drop i)
def lk (n:Int) (q:fP):fP:=if q.op=true then {q with to:=n} else q
def sC (l:List UInt8) (q:fP):fP:=if q.mode=12 then {q with to:=q.fr+1+(rj l (q.fr+1).toNat:Int),op:=false} else q
def nR (l:List UInt8) (q:fP):fP:=sC l (lk l.length q)
def eQ (l:List UInt8):List fP:=(eZ l l.length).map (nR l)
theorem yO (q:fP):(lk n q).fr=q.fr:=by unfold lk;split<;>rfl
theorem JX (q:fP):(sC l q).fr=q.fr:=by unfold sC;split<;>rfl
theorem B8 (q:fP):(nR l q).fr=q.fr:=by unfold nR;rw[JX,yO]
def AQ (F:fK) (p:Int):Nat:=if p∈fu F then (fu F).idxOf p+1 else 0
def jT (F:Nat→fK) (fr:Int) (n:Nat):Nat→Nat→fP→fP
  | 0,_,q=>q
  | m+1,k,q=>if AQ (F k) fr=0 then {q with to:=k,op:=false} else jT F fr n m (k+1) {q with mode:=zv ((F k).getD (n-1) (0,0)).1}
def Lp (n:Nat) (p:Int):List fP→Nat→Int→Int
  | [],_,u=>u
  | q::l,k,u=>Lp n p l (k+1) (if 1<n∧q.fr=p then (k:Int) else u)
def KS (l:List UInt8) (f:Nat) (out:List fP):fP:=
  sC l (jT (FT l) f (AQ (FT l (f+1)) f) (l.length-f) (f+1) ⟨0,f,l.length,Lp (AQ (FT l (f+1)) f) ((fu (FT l (f+1))).getD (AQ (FT l (f+1)) f-2) 0) out 0 (-1),true⟩)
def rm (l:List UInt8):Nat→List fP
  | 0=>[]
  | f+1=>rm l f++(if AQ (FT l (f+1)) f=0 then [] else [KS l f (rm l f)])
def l7 (l:List UInt8):Nat→Nat→fP→fP
  | 0,_,q=>q
  | m+1,k,q=>l7 l m (k+1) (su (FT l k) k q)
theorem vk (l:List UInt8):∀(m a:Nat) (q:fP),l7 l (m+1) a q=su (FT l (a+m)) ((a+m:Nat):Int) (l7 l m a q)
  | 0,a,q=>rfl
  | m+1,a,q=>by
    show l7 l (m+1) (a+1) _=_;rw[vk l m (a+1)];rw[show a+1+m=a+(m+1) by omega];rfl
theorem B9 (l:List UInt8):∀(m a:Nat) (q:fP),(l7 l m a q).fr=q.fr
  | 0,_,_=>rfl
  | m+1,a,q=>by show (l7 l m (a+1) _).fr=_;rw[B9 l m,zA]
theorem vm (l:List UInt8):∀(m a:Nat) (q:fP),q.op=false→l7 l m a q=q
  | 0,_,_,_=>rfl
  | m+1,a,q,h=>by
    show l7 l m (a+1) _=_
    have:su (FT l a) a q=q:=by unfold su;rw[aC (by rw[h];simp)]
    rw[this,vm l m (a+1) q h]
theorem nQ {l:List α} {f g:α→List β} (h:∀x∈l,f x=g x):l.flatMap f=l.flatMap g:=by
  rw[List.flatMap_def,List.flatMap_def,cw h]
theorem uh (l:List UInt8):∀k,eZ l k=(List.range k).flatMap fun f=>(mR (FT l (f+1)) f (eZ l f)).map (l7 l (k-(f+1)) (f+2))
  | 0=>rfl
  | k+1=>by
    rw[List.range_succ,List.flatMap_append];show (eZ l k).map _++_=_;congr 1
    ·conv=>lhs;rw[uh l k]
     rw[List.map_flatMap];refine nQ fun f hf=>?_
     have hfk:=cI.1 hf;rw[dA];refine cw fun q _=>?_
     simp only[Function.comp];rw[show k+1-(f+1)=(k-(f+1))+1 by omega,vk,show f+2+(k-(f+1))=k+1 by omega];rfl
    ·simp only[List.flatMap_cons,List.flatMap_nil,bB];rw[dB];show _=List.map (fun q=>q) _;rw[List.map_id']
theorem qO:(fu (FT l k)).Nodup:=by rw[dm];exact(oR l k).1.imp (fun h=>by omega)
theorem rB {P:List Int} (h:P.Nodup) (hi:P[i]? = some p) (hj:P[j]? = some p):i=j:=by
  obtain⟨h1,h2⟩:=az.1 hi;obtain⟨h3,h4⟩:=az.1 hj;rw[dm] at h;rcases Nat.lt_trichotomy i j with e|e|e
  ·exact absurd (h2.trans h4.symm) (dr.1 h i j h1 h3 e)
  ·exact e
  ·exact absurd (h4.trans h2.symm) (dr.1 h j i h3 h1 e)
theorem mw (f n:Nat) (h0:(fu (FT l (f+1)))[n]? = some (f:Int)):∀k,f+1≤k→(f:Int)∈fu (FT l k)→(fu (FT l k))[n]? = some (f:Int):=by
  intro k hk
  induction k with
  | zero=>omega
  | succ k ih=>
    intro hm;by_cases e:k=f
    ·subst e;exact h0
    ·obtain⟨j,A,B,hF,hj,hA,hB⟩:=mH l k;have hmA:(f:Int)∈fu A:=by
       rw[hF,fu,bG] at hm;rcases bM.1 hm with h|h
       ·exact h
       ·rcases hB with rfl|⟨c,rfl⟩
        ·cases h
        ·simp at h;omega
     have hmt:=hmA;rw[hA] at hmt;have ih':=ih (by omega) (cC hmt);obtain⟨i,hi,hie⟩:=List.mem_take_iff_getElem.1 hmt;have hij:i=n:=rB (qO l k) (az.2 ⟨by omega,hie⟩) ih';rw[hF,fu,bG,aU (by
       have:=congrArg List.length hA
       simp[fu] at this ⊢;simp[fu] at hi;omega)]
     rw[show A.map (·.2)=fu A from rfl,hA,cG,aB (by omega)];exact ih'
theorem yP (h:(fu F).Nodup) (hi:F[i]? = some y):qD F y.2=some y.1:=by
  have hm:y.2∈fu F:=bZ.2 ⟨y,aI hi,rfl⟩;obtain⟨c,hc,hcm⟩:=tY hm;obtain⟨j,hj⟩:=List.mem_iff_getElem?.1 hcm;have e1:(fu F)[i]? = some y.2:=by rw[aV,hi];rfl
  have e2:(fu F)[j]? = some y.2:=by rw[aV,hj];rfl
  have:=rB h e1 e2
  subst this;rw[hi] at hj;injection hj with hj
  rw[hc,hj]
theorem mG:AQ F p=0↔p∉fu F:=by unfold AQ;split<;>simp_all
theorem Hg (h:p∈fu F):(fu F)[AQ F p-1]? = some p∧1≤AQ F p:=by
  unfold AQ;rw[aB h];refine⟨?_,by omega⟩;rw[Nat.add_sub_cancel,ax (List.idxOf_lt_length_of_mem h)];exact congrArg some (List.getElem_idxOf (List.idxOf_lt_length_of_mem h))
theorem om (l:List UInt8) (f n:Nat) (hn:∀k,f+1≤k→(f:Int)∈fu (FT l k)→(fu (FT l k))[n-1]? = some (f:Int)):∀(m k:Nat) (q:fP),q.op=true→q.fr=f→f+1≤k →
    jT (FT l) f n m k {q with to:=l.length}=lk l.length (l7 l m k q)
  | 0,k,q,ho,hf,hk=>by unfold jT l7 lk;rw[aB ho]
  | m+1,k,q,ho,hf,hk=>by
    unfold jT;by_cases hm:(f:Int)∈fu (FT l k)
    ·rw[aC (fun h=>mG.1 h hm)];have h1:=hn k hk hm;rw[aV] at h1
     cases hy:(FT l k)[n-1]? with
     | none=>rw[hy] at h1;cases h1
     | some y=>
       rw[hy] at h1;simp at h1;have h2:=yP (qO l k) hy;rw[h1] at h2;have hu:su (FT l k) k q={q with mode:=zv y.1}:=by unfold su;rw[aB ho,hf,h2]
       have hg:((FT l k).getD (n-1) (0,0)).1=y.1:=by rw[aF,hy];rfl
       rw[hg];show jT (FT l) f n m (k+1) {({q with mode:=zv y.1}:fP) with to:=l.length}=lk l.length (l7 l m (k+1) (su (FT l k) k q));rw[hu];exact om l f n hn m (k+1) {q with mode:=zv y.1} ho hf (by omega)
    ·rw[aB (mG.2 hm)];have hu:su (FT l k) k q={q with to:=k,op:=false}:=by unfold su;rw[aB ho,hf,pD hm]
     show _=lk l.length (l7 l m (k+1) (su (FT l k) k q));rw[hu,vm _ _ _ _ rfl];rfl
theorem vD (n:Nat) (p:Int):∀(l:List fP) (k:Nat) (u:Int),(1<n→p∉iE l)→Lp n p l k u=u
  | [],_,_,_=>rfl
  | q::l,k,u,h=>by
    unfold Lp;rw[aC (fun hh=>h hh.1 (by simp[iE,hh.2]))];exact vD n p l (k+1) u (fun hn hm=>h hn (by simp only[iE,cF,bj];exact .inr hm))
theorem Bf (n:Nat) (p:Int) (hn:1<n):∀(l:List fP) (k:Nat) (u:Int),(iE l).Nodup→p∈iE l→Lp n p l k u=((k+iH l p:Nat):Int)
  | [],_,_,_,h=>by simp[iE] at h
  | q::l,k,u,hd,h=>by
    unfold Lp;simp only[iE,cF,List.nodup_cons] at hd;by_cases e:q.fr=p
    ·rw[aB ⟨hn,e⟩,vD n p l (k+1) k (fun _ hm=>hd.1 (by rw[e];exact hm))];simp[iH,iE,List.idxOf_cons,e]
    ·rw[aC (fun hh=>e hh.2)];have hm:p∈iE l:=by
       simp only[iE,cF,bj] at h;rcases h with h|h
       ·exact absurd h.symm e
       ·exact h
     rw[Bf n p hn l (k+1) u hd.2 hm]
     have:iH (q::l) p=iH l p+1:=by
       simp only[iH,iE,cF,List.idxOf_cons]
       have:(q.fr==p)=false:=by simpa using e
       rw[this];rfl
     rw[this];congr 1;omega
theorem pa (l:List UInt8):∀f,f≤l.length→rm l f=(List.range f).flatMap (fun f=>(mR (FT l (f+1)) f (eZ l f)).map fun q=>nR l (l7 l (l.length-(f+1)) (f+2) q))∧iE (rm l f)=iE (eZ l f)
  | 0,_=>⟨rfl,rfl⟩
  | f+1,hf=>by
    obtain⟨ih,ihf⟩:=pa l f (by omega);have ci:=mE l f;obtain⟨j,A,B,hF,hj,hA,hB⟩:=mH l f;have hkP:(f:Int)∉fu (FT l f):=fun h=>by have:=(oR l f).2 _ h;omega
    have hAmem:∀p∈fu A,p∈fu (FT l f):=fun p hp=>by rw[hA] at hp;exact cC hp
    rcases hB with rfl|⟨c,rfl⟩
    ·have hno:(f:Int)∉fu (FT l (f+1)):=by rw[hF,bB];exact fun h=>hkP (hAmem _ h)
     have hnew:mR (FT l (f+1)) f (eZ l f)=[]:=oC (fun p hp e=>hno (e▸hp));have e:rm l (f+1)=rm l f:=by show rm l f++_=_;rw[aB (mG.2 hno),bB]
     rw[e];refine⟨?_,?_⟩
     ·rw[List.range_succ,List.flatMap_append,←ih];simp[hnew]
     ·rw[jP,hnew,ihf];simp[iE]
    ·have hnew:=oB (k:=(f:Int)) (l:=eZ l f) hF;have hyes:(f:Int)∈fu (FT l (f+1)):=by rw[hF];simp[fu]
     have hAl:(f:Int)∉fu A:=fun h=>hkP (hAmem _ h)
     have hn:AQ (FT l (f+1)) f=A.length+1:=by
       unfold AQ;rw[aB hyes,hF,fu,bG,List.idxOf_append,aC hAl];simp
     have hidx:∀k,f+1≤k→(f:Int)∈fu (FT l k)→(fu (FT l k))[AQ (FT l (f+1)) f-1]? = some (f:Int):=mw l f _ (Hg hyes).1;have hup:Lp (AQ (FT l (f+1)) f) ((fu (FT l (f+1))).getD (AQ (FT l (f+1)) f-2) 0) (rm l f) 0 (-1)=DC (FT l (f+1)) (eZ l f):=by
       rw[hn];unfold DC;rw[hF,List.dropLast_concat];rcases List.eq_nil_or_concat A with h|⟨G,y,h⟩
       ·subst h;rw[vD _ _ _ _ _ (fun h=>by simp at h)];rfl
       ·have h':A=G++[y]:=by simpa using h
        have hyA:y.2∈fu A:=by rw[h'];simp[fu]
        rw[h'];simp only[List.getLast?_append,List.getLast?_singleton,Option.some_or];have hp:(fu ((G++[y])++[(c,(f:Int))])).getD ((G++[y]).length+1-2) 0=y.2:=by
          rw[aF];simp only[fu,bG,cF,List.map_nil,aD,aL,cg];rw[aU (by simp),aP (by simp)];simp
        rw[hp,Bf _ _ (by simp) _ _ _ (by rw[ihf,dm];exact ci.rise.imp (fun h=>by omega)) (by rw[ihf];exact ci.sub _ (hAmem _ hyA))];rw[dv];unfold iH;rw[ihf]
     have e:rm l (f+1)=rm l f++[nR l (l7 l (l.length-(f+1)) (f+2) ⟨zv c,f,0,DC (FT l (f+1)) (eZ l f),true⟩)]:=by
       show rm l f++_=_;rw[aC (fun h=>mG.1 h hyes)];congr 2;unfold KS nR;congr 1;rw[hup,show l.length-f=(l.length-(f+1))+1 by omega];have hs:=om l f _ hidx (l.length-(f+1)+1) (f+1) ⟨0,f,0,DC (FT l (f+1)) (eZ l f),true⟩ rfl rfl (au _);rw[hs];show lk _ (l7 l (l.length-(f+1)) (f+2) (su (FT l (f+1)) ((f+1:Nat):Int) ⟨0,f,0,DC (FT l (f+1)) (eZ l f),true⟩))=_;congr 2;unfold su;rw[aB rfl];have hfa:qD (FT l (f+1)) (f:Int)=some c:=yP (y:=(c,(f:Int))) (qO l (f+1)) (i:=A.length) (by rw[hF];simp);simp only[hfa]
     rw[e];refine⟨?_,?_⟩
     ·rw[List.range_succ,List.flatMap_append,←ih];simp[hnew]
     ·rw[jP,hnew,iE,bG,show (rm l f).map (·.fr)=_ from ihf];simp only[cF,List.map_nil,B8,B9]
theorem Af:rm l l.length=eQ l:=by
  unfold eQ;rw[(pa l l.length (au _)).1];conv=>rhs;rw[uh]
  rw[List.map_flatMap];refine nQ fun f _=>?_
  rw[dA];rfl
def zy (st:fK):Prop:=∀y∈st,y.1.toNat≠76
theorem zy.tail (h:zy st):zy st.tail:=fun y hy=>h y (List.mem_of_mem_tail hy)
theorem zy.cons {st:fK} {c:UInt8} {p:Int} (h:zy st) (hc:c.toNat≠76):zy ((c,p)::st):=by
  intro y hy;rcases bj.1 hy with rfl|hy
  ·exact hc
  ·exact h y hy
theorem zy.of_cons (h:zy (y::st)):zy st:=fun z hz=>h z (cj _ hz)
def DR (a:Int) (x:fK×Bool):Prop:=zy x.1∨∃d q r,x.1=((76:UInt8),a)::(d,q)::r∧zy ((d,q)::r)∧(d.toNat≠88∧d.toNat≠79∧d.toNat≠69)∧(d.toNat=84∨d.toNat=67∨d.toNat=80→x.2=false)
theorem zT (c:UInt8) (q:Int) (r:fK) (f:Bool) (b:UInt8) (a:Int) (h:zy ((c,q)::r)) (hc:c.toNat≠88∧c.toNat≠79∧c.toNat≠69):DR a (ez ((c,q)::r) f c b a):=by
  unfold ez
  repeat' (refine eF (DR a) (fun _=>?_) (fun _=>?_))
  all_goals first
    | exact .inl h
    | exact .inl h.tail
    | exact .inr ⟨c,q,r,rfl,h,hc,fun _=>rfl⟩
    | exact .inl (h.cons (by decide))
theorem pT (c:UInt8) (q:Int) (r:fK) (f:Bool) (b:UInt8) (a:Int) (h:zy ((c,q)::r)) (h1:c.toNat≠79) (h2:c.toNat≠69):DR a (dZ ((c,q)::r) f c b a):=by
  unfold dZ;refine eF (DR a) (fun h3=>zT c q r f b a h ⟨by omega,h1,h2⟩) (fun h3=>?_);refine eF (DR a) (fun _=>.inl h.tail) (fun h4=>?_);have hd:c.toNat≠88∧c.toNat≠79∧c.toNat≠69:=⟨h4,h1,h2⟩
  repeat' (refine eF (DR a) (fun _=>?_) (fun _=>?_))
  all_goals first
    | exact .inl h
    | exact .inl h.tail
    | exact .inr ⟨c,q,r,rfl,h,hd,fun hh=>absurd hh h3⟩
    | exact .inl (h.cons (by decide))
    | exact .inl (h.of_cons.cons (by decide))
theorem I2 (st:fK) (f:Bool) (b:UInt8) (a0 a:Int) (h:DR a0 (st,f)):DR a (f9 st f b a):=by
  rcases h with h|⟨d,q,r,he,h,hd,hf⟩
  ·match st,h with
   | [],h=>exact .inl h
   | (c,p)::r,h=>
     have hc:c.toNat≠76:=h (c,p) (db ..);unfold f9;simp only;rw[aC hc];refine eF (DR a) (fun _=>?_) (fun h1=>?_)
     ·exact eF (DR a) (fun _=>.inl (zy.cons h.of_cons (by decide))) (fun _=>pT 67 p r f b a (zy.cons h.of_cons (by decide)) (by decide) (by decide))
     ·refine eF (DR a) (fun _=>?_) (fun h2=>pT c p r f b a h h1 h2);exact eF (DR a) (fun _=>.inl h.of_cons) (fun _=>pT 65 p r f b a (zy.cons h.of_cons (by decide)) (by decide) (by decide))
  ·simp only at he;subst he;unfold f9;simp only;rw[aB (by decide)];refine eF (DR a) (fun _=>.inl (h.cons (by decide))) (fun _=>?_);refine eF (DR a) (fun _=>?_) (fun _=>?_)
   ·exact eF (DR a) (fun _=>.inl (h.cons (by decide))) (fun _=>.inl (h.cons (by decide)))
   ·exact eF (DR a) (fun _=>.inl h) (fun _=>pT d q r f b a h hd.2.1 hd.2.2)
theorem KP (l:List UInt8):∀k:Nat,DR ((k:Int)-1) (iA l k)
  | 0=>.inl (by intro y hy;simp[iA] at hy;rw[hy];decide)
  | k+1=>by
    have:=I2 (iA l k).1 (iA l k).2 (l.getD k 0) _ k (KP l k)
    rw[show ((k+1:Nat):Int)-1=k by omega];exact this
def P3 (ps:List Int) (a:Int) (x:fK×Bool):Prop:=fu x.1=ps∨fu x.1=a::ps∨fu x.1=ps.tail
theorem P3.push {a:Int} {x:fK×Bool} (h:P3 ps a x) (e:fu x.1=a::X) (ha:a∉ps):X=ps:=by
  rcases h with h|h|h
  ·rw[h] at e;exact absurd (e▸db ..) ha
  ·rw[h] at e;exact(List.cons.inj e).2.symm
  ·rw[h] at e;exact absurd (List.mem_of_mem_tail (e▸db ..)) ha
theorem Bj (p:UInt8→Bool):∀(m:List UInt8) (j:Nat),j<(m.takeWhile p).length→p (m.getD j 0)=true
  | [],j,h=>by simp at h
  | c::m,0,h=>by
    by_cases hc:p c=true
    ·exact hc
    ·rw[cV hc] at h;simp at h
  | c::m,j+1,h=>by
    by_cases hc:p c=true
    ·rw[dj hc] at h;exact Bj p m j (by simpa using h)
    ·rw[cV hc] at h;simp at h
def gQ (l:List UInt8) (a k:Nat):Bool:=rL (iA (l.drop a) k).1 (l.getD (a+k) 0)
def lE (l:List UInt8) (a:Nat):Nat:=lH (gQ l a) (l.length-a) 0
def pF (c:UInt8):List UInt8:=
  if c.toNat=83 then [39] else if c.toNat=68 then [34] else if c.toNat=66 then [96] else if c.toNat=86∨c.toNat=73 then [125]
  else if c.toNat=67∨c.toNat=79∨c.toNat=80∨c.toNat=82∨c.toNat=69 then [41] else if c.toNat=65 then [41,41] else if c.toNat=88∨c.toNat=35 then [10] else []
theorem zd (c:UInt8):(pF c).length≤2:=by
  unfold pF;repeat' split
  all_goals simp
def Oh (st:fK):List UInt8:=st.flatMap fun x=>pF x.1
end Go.Proofs.YtmclohkaiemnaaaGreatDoor
