/- Plain functions of chapters 4 and 6: the classes of bytes, and the machine of modes as the program and as the reference have it. No program is in sight. -/
import Derived.Lib.Hide
import Derived.WalkKit
set_option linter.unusedVariables false
set_option linter.unusedSimpArgs false
set_option maxRecDepth 100000
set_option maxHeartbeats 8000000
namespace Go.Proofs.YtcagfamdoaoimaaGreatDoor
section
open Go.RowKit
abbrev aa:=@Lib.hid
abbrev ac:=@And.intro
abbrev ae:=@List.setIfInBounds_toArray
abbrev ai:=@List.getElem_cons_succ
abbrev aj:=@List.getElem_cons_zero
abbrev am:=@List.getElem_toArray
abbrev an:=@List.set_cons_zero
abbrev ar:=@List.set_cons_succ
abbrev au:=@Nat.le_refl
abbrev ax:=@List.getElem?_eq_getElem
abbrev ay:=@List.getElem?_eq_some_iff
abbrev az:=@beq_eq_false_iff_ne
abbrev aA:=@Nat.le_trans
abbrev aB:=@if_neg
abbrev aC:=@Below.refl
abbrev aD:=@if_pos
abbrev aE:=@List.getD_eq_getElem?_getD
abbrev aF:=@Decidable.em
abbrev aG:=@decide_eq_true
abbrev aH:=@List.length_append
abbrev aI:=@Bool.false_eq_true
abbrev aJ:=@beq_false_of_ne
abbrev aK:=@bodyPost_ret
abbrev aL:=@decide_eq_false
abbrev aM:=@Array.getElem?_eq_some_iff
abbrev aN:=@List.getElem?_cons_zero
abbrev aO:=@List.mem_of_getElem?
abbrev aP:=@List.length_cons
abbrev aQ:=@List.getElem?_toArray
abbrev aR:=@beq_iff_eq
abbrev aS:=@IntWalk.i64_in
abbrev aT:=@Bool.and_eq_true
abbrev aU:=@callsIn_wide
abbrev aV:=@World.size_alloc
abbrev aW:=@List.getElem?_append_left
abbrev aX:=@List.getElem?_append_right
abbrev aY:=@Below.alloc
abbrev aZ:=@List.mem_append
abbrev bc:=@List.getElem?_map
abbrev bj:=@Exit.noGoto_normal
abbrev bp:=@if_false
abbrev bq:=@Nat.le_of_lt
abbrev br:=@List.mem_cons
abbrev bu:=@List.cons_append
abbrev bv:=@Nat.zero_le
abbrev bz:=@List.append_nil
abbrev bA:=@Nat.lt_of_lt_of_le
abbrev bB:=@Bool.eq_iff_iff
abbrev bC:=@Exit.noGoto_ret
abbrev bE:=@Array.replicate_succ
abbrev bF:=@Array.replicate_zero
abbrev bG:=@List.mem_cons_of_mem
abbrev bH:=@Nat.succ_le_succ
abbrev bI:=@List.length_nil
abbrev bJ:=@List.append_toArray
abbrev bK:=@Below.heap_setCell
abbrev bM:=@List.take_succ_eq_append_getElem
abbrev bN:=@List.pairwise_iff_getElem
abbrev bP:=@List.eq_nil_of_length_eq_zero
abbrev bQ:=@if_true
abbrev bR:=@List.take_of_length_le
abbrev bS:=@List.all_eq_true
abbrev bT:=@List.nil_append
abbrev bU:=@List.size_toArray
abbrev bV:=@List.push_toArray
abbrev bW:=@decide_eq_true_eq
abbrev bX:=@List.mem_map
abbrev bY:=@List.getElem?_eq_none
abbrev bZ:=@Nat.lt_or_ge
abbrev cg:=@Nat.le_succ
abbrev cj:=@World.ownsRow_nil
abbrev cm:=@List.length_take
abbrev cq:=@List.IsPrefix.trans
abbrev cw:=@List.map_append
abbrev cx:=@wp_region_lit
abbrev cy:=@List.getElem?_drop
abbrev cz:=@List.map_cons
abbrev cC:=@List.getElem?_cons_succ
abbrev cD:=@info_parts
abbrev cE:=@List.mem_singleton
abbrev cF:=@List.take_succ_cons
abbrev cG:=@Oper.semAt_some
abbrev cH:=@List.length_map
abbrev cI:=@List.mem_range
abbrev cJ:=@wpList_step
abbrev cK:=@Bool.true_and
abbrev cL:=@List.map_congr_left
abbrev cM:=@Nat.zero_add
abbrev cN:=@List.mem_of_mem_take
abbrev cO:=@List.append_assoc
abbrev cP:=@List.pairwise_cons
abbrev cQ:=@Below.grown
abbrev cR:=@List.length_singleton
abbrev cS:=@List.takeWhile_cons
abbrev cT:=@wpList_nil
abbrev cU:=@of_decide_eq_true
abbrev cV:=@List.drop_eq_getElem_cons
abbrev cW:=@List.find?_eq_none
abbrev db:=@List.mem_cons_self
abbrev dc:=@UInt8.toNat_inj
abbrev de:=@Nat.min_eq_left
abbrev dh:=@Nat.mul_le_mul_right
abbrev di:=@List.nodup_iff_pairwise_ne
abbrev dj:=@List.getElem?_take
abbrev dk:=@callsIn_of_wp
abbrev dm:=@Bool.or_eq_true
abbrev dq:=@List.mem_iff_getElem?
abbrev dr:=@List.take_append_drop
abbrev dt:=@List.drop_zero
abbrev du:=@wp_loop_rounds
abbrev dv:=@results_tmp
abbrev dw:=@rounds_succ
abbrev dx:=@List.pairwise_append
abbrev dy:=@List.take_length
abbrev dA:=@List.idxOf_lt_length_of_mem
abbrev dB:=@List.takeWhile_cons_of_pos
abbrev dC:=@List.takeWhile_cons_of_neg
abbrev dD:=@Classical.byContradiction
abbrev dE:=@Nat.add_assoc
abbrev dF:=@Bool.false_and
abbrev dG:=@List.mem_flatMap
abbrev dH:=@Nat.lt_succ_self
abbrev dI:=@Nat.add_sub_cancel
abbrev dJ:=@List.map_map
end
theorem fg (p:UInt8→Bool) (h:(List.range 256).all (fun n=>p (UInt8.ofNat n))=true) (c:UInt8):p c=true:=by
  have h1:=bS.1 h c.toNat (cI.2 c.toNat_lt)
  rwa [UInt8.ofNat_toNat] at h1
def eT (c:UInt8):Int:=
  if c.toNat=32∨c.toNat=9 then 1
  else if c.toNat=10 then 2
  else if 48≤c.toNat∧c.toNat≤57 then 6
  else if (97≤c.toNat∧c.toNat≤122)∨(65≤c.toNat∧c.toNat≤90)∨c.toNat=95 then 5
  else if c.toNat=124∨c.toNat=38∨c.toNat=59∨c.toNat=60∨c.toNat=62∨c.toNat=40∨c.toNat=41 then 3
  else if c.toNat=92∨c.toNat=39∨c.toNat=34∨c.toNat=96∨c.toNat=36 then 4
  else 0
def gR (c:UInt8):Bool:=decide (eT c=1∨eT c=2∨eT c=3)
def eH (c:UInt8):Int:=
  if c.toNat=84 then 0 else if c.toNat=67 then 1 else if c.toNat=80 then 2 else if c.toNat=79 then 3 else if c.toNat=83 then 4 else if c.toNat=68 then 5 else if c.toNat=66 then 6
  else if c.toNat=86 then 7 else if c.toNat=73 then 8 else if c.toNat=65 then 9 else if c.toNat=82 then 10 else if c.toNat=69 then 11 else if c.toNat=76 then 12 else if c.toNat=88 then 13 else if c.toNat=35 then 14 else 15
def uQ (c:UInt8) (l:List UInt8):Bool:=l.any fun d=>decide (d.toNat=c.toNat)
theorem zc (c:UInt8) (l:List UInt8) (k:Nat) (h:k<l.length):uQ c (l.take (k+1))=(uQ c (l.take k)||decide ((l[k]'h).toNat=c.toNat)):=by
  unfold uQ;rw[bM h,List.any_append];simp
theorem zd (c:UInt8) (l:List UInt8) (k:Nat) (h:uQ c (l.take k)=true):uQ c l=true:=by
  unfold uQ at h ⊢;rw[List.any_eq_true] at h ⊢;obtain⟨x,hx,hp⟩:=h;exact⟨x,cN hx,hp⟩
def Gg:List UInt8:=[124,38,59,60,62,40,41]
def Cp:List UInt8:=[92,39,34,96,36]
def yW:List UInt8:=[65,66,67,68,69,70,71,72,73,74,75,76,77,78,79,80,81,82,83,84,85,86,87,88,89,90,97,98,99,100,101,102,103,104,105,106,107,108,109,110,111,112,113,114,115,116,117,118,119,120,121,122,95]
def Cq:List UInt8:=[48,49,50,51,52,53,54,55,56,57]
def CG (c:UInt8):Int:=
  if c.toNat=32∨c.toNat=9 then 1 else if c.toNat=10 then 2 else if uQ c Gg=true then 3 else if uQ c Cp=true then 4 else if uQ c yW=true then 5 else if uQ c Cq=true then 6 else 0
theorem Hg (c:UInt8):CG c=eT c:=by
  have h:=fg (fun c=>CG c==eT c) (by decide +kernel) c;simpa using h
def gj (c:UInt8):List UInt8:=if c.toNat=92 then [88] else if c.toNat=36 then [76] else if c.toNat=96 then [66] else []
abbrev eU:=List (UInt8×Int)
variable {g:Bool} {p q:Int} {m i j:Nat} {stop:Nat→Bool} {st st' F G:eU} {x:eU×Bool} {α β:Type} {d:UInt8} {y:UInt8×Int} (r:eU) (fs:List (Int×Int)) (f:Bool) (a:Int) (l:List UInt8) (P:List Int) (c b:UInt8) (k:Nat)
def rS (st:eU):List UInt8:=(st.map (·.1)).reverse
def rP (st:eU):List Int:=(st.map (·.2)).reverse
theorem kw (st:eU):(rS st).length=st.length:=by simp[rS]
theorem wF (st:eU):(rP st).length=st.length:=by simp[rP]
theorem ow (p:Int) (st:eU):rS ((c,p)::st)=rS st++[c]:=by simp[rS]
theorem wG (p:Int) (st:eU):rP ((c,p)::st)=rP st++[p]:=by simp[rP]
theorem B4 (p:Int) (st:eU) (n:Nat) (h:st.length=n):(rS ((c,p)::st)).take n=rS st:=by rw[ow,←h,←kw st,List.take_left]
theorem I7 (p:Int) (st:eU) (n:Nat) (h:st.length=n):(rP ((c,p)::st)).take n=rP st:=by rw[wG,←h,←wF st,List.take_left]
def dU (st:eU) (f:Bool) (c b:UInt8) (at_:Int):eU×Bool:=
  if b.toNat=92 then ((88,at_)::st,f)
  else if b.toNat=39 then ((83,at_)::st,false)
  else if b.toNat=34 then ((68,at_)::st,false)
  else if b.toNat=96 then ((66,at_)::st,false)
  else if b.toNat=36 then ((76,at_)::st,false)
  else if b.toNat=35∧f=true then ((35,at_)::st,f)
  else if b.toNat=40 then (if c.toNat=84 then (st,true) else ((80,at_)::st,true))
  else if b.toNat=41 then (if c.toNat=84 then (st,true) else (st.tail,decide (c.toNat=80)))
  else (st,gR b)
def dL (st:eU) (f:Bool) (c b:UInt8) (at_:Int):eU×Bool:=
  if c.toNat=84∨c.toNat=67∨c.toNat=80 then dU st f c b at_
  else if c.toNat=88 then (st.tail,if b.toNat=10 then f else false)
  else if c.toNat=83 then (if b.toNat=39 then (st.tail,f) else (st,f))
  else if c.toNat=35 then (if b.toNat=10 then (st.tail,true) else (st,f))
  else if c.toNat=66 then (if b.toNat=96 then (st.tail,f) else if b.toNat=92 then ((88,at_)::st,f) else (st,f))
  else if b.toNat=92 then ((88,at_)::st,f)
  else if b.toNat=36 then ((76,at_)::st,f)
  else if b.toNat=96 then ((66,at_)::st,f)
  else if c.toNat=65∨c.toNat=82 then
    (if b.toNat=40 then ((82,at_)::st,f) else if b.toNat=41∧c.toNat=82 then (st.tail,f)
     else if b.toNat=41 then (match st with|[]=>[]|(_,p)::r=>(69,p)::r,f) else (st,f))
  else if c.toNat=68 then (if b.toNat=34 then (st.tail,f) else (st,f))
  else if b.toNat=34 then ((68,at_)::st,f)
  else if b.toNat=125 then (st.tail,f)
  else if b.toNat=39∧c.toNat=86 then ((83,at_)::st,f)
  else (st,f)
def eG (st:eU) (f:Bool) (b:UInt8) (at_:Int):eU×Bool:=
  match st with
  | []=>([],f)
  | (c,p)::r=>
    if c.toNat=76 then
      (if b.toNat=40 then ((79,p)::r,true)
       else if b.toNat=123 then
         (match r with
          | (d,_)::_=>if d.toNat=68∨d.toNat=73 then ((73,p)::r,f) else ((86,p)::r,f)
          | []=>((86,p)::r,f))
       else if b.toNat=36 then (r,f)
       else match r with
          | (d,_)::_=>dL r f d b at_
          | []=>(r,f))
    else if c.toNat=79 then
      (if b.toNat=40 then ((65,p)::r,false) else dL ((67,p)::r) f 67 b at_)
    else if c.toNat=69 then
      (if b.toNat=41 then (r,f) else dL ((65,p)::r) f 65 b at_)
    else dL st f c b at_
def l9:eU→Prop
  | []=>False
  | [(c,_)]=>c=84
  | (c,_)::r=>c≠84∧l9 r
theorem l9.ne (h:l9 st):st≠[]:=by rintro rfl;exact h
theorem l9.single {c:UInt8} (h:l9 [(c,p)]):c=84:=h
theorem l9.cons {c:UInt8} {p:Int} {st:eU} (hc:c≠84) (h:l9 st):l9 ((c,p)::st):=by
  cases st with
  | nil=>exact h.elim
  | cons x r=>exact⟨hc,h⟩
theorem l9.tail {c:UInt8} (hc:c≠84) (h:l9 ((c,p)::st)):l9 st:=by
  cases st with
  | nil=>exact(hc h).elim
  | cons x r=>exact h.2
theorem l9.turn {c:UInt8} (hc:c≠84) (hd:d≠84) (h:l9 ((c,p)::st)):l9 ((d,q)::st):=(h.tail hc).cons hd
theorem l9.turn' {c:UInt8} (hc:c.toNat≠84) (hd:d≠84) (h:l9 ((c,p)::st)):l9 ((d,q)::st):=h.turn (fun e=>hc (by rw[e];rfl)) hd
theorem l9.tail' {c:UInt8} (hc:c.toNat≠84) (h:l9 ((c,p)::st)):l9 st:=h.tail (fun e=>hc (by rw[e];rfl))
theorem ek {α:Type} (P:α→Prop) {c:Prop} [Decidable c] {a b:α} (h1:c→P a) (h2:¬c→P b):P (if c then a else b):=by
  by_cases h:c
  ·rw[aD h];exact h1 h
  ·rw[aB h];exact h2 h
theorem mL (p at_:Int) (h:l9 ((c,p)::r)):l9 (dL ((c,p)::r) f c b at_).1:=by
  unfold dL
  repeat' (refine ek (fun x:eU×Bool=>l9 x.1) (fun _=>?_) (fun _=>?_))
  all_goals first
    | exact rProgram_bot _ _ _ _ _ _ h
    | exact h
    | exact h.cons (by decide)
    | exact h.tail' (by omega)
    | exact h.turn' (by omega) (by decide)
theorem vq (st:eU) (f:Bool) (b:UInt8) (at_:Int) (h:l9 st):l9 (eG st f b at_).1:=by
  match st,h with
  | (c,p)::r,h=>
    unfold eG;refine ek (fun x:eU×Bool=>l9 x.1) (fun hc=>?_) (fun _=>?_)
    ·have ht:=h.tail' (by omega);refine ek (fun x:eU×Bool=>l9 x.1) (fun _=>h.turn' (by omega) (by decide)) (fun _=>?_);refine ek (fun x:eU×Bool=>l9 x.1) (fun _=>?_) (fun _=>?_)
     ·cases r with
      | nil=>exact h.turn' (by omega) (by decide)
      | cons x r=>
        obtain⟨d,q⟩:=x;exact ek (fun x:eU×Bool=>l9 x.1) (fun _=>h.turn' (by omega) (by decide)) (fun _=>h.turn' (by omega) (by decide))
     ·refine ek (fun x:eU×Bool=>l9 x.1) (fun _=>ht) (fun _=>?_)
      cases r with
      | nil=>exact ht
      | cons x r=>obtain⟨d,q⟩:=x;exact mL _ _ _ _ _ _ ht
    ·refine ek (fun x:eU×Bool=>l9 x.1) (fun _=>?_) (fun _=>?_)
     ·exact ek (fun x:eU×Bool=>l9 x.1) (fun _=>h.turn' (by omega) (by decide)) (fun _=>mL _ _ _ _ _ _ (h.turn' (by omega) (by decide)))
     ·refine ek (fun x:eU×Bool=>l9 x.1) (fun _=>?_) (fun _=>mL _ _ _ _ _ _ h);exact ek (fun x:eU×Bool=>l9 x.1) (fun _=>h.tail' (by omega)) (fun _=>mL _ _ _ _ _ _ (h.turn' (by omega) (by decide)))
theorem wE (st:eU) (f:Bool) (c b:UInt8) (at_:Int):(dU st f c b at_).1.length≤st.length+1:=by
  unfold dU
  repeat' (refine ek (fun x:eU×Bool=>x.1.length≤st.length+1) (fun _=>?_) (fun _=>?_))
  all_goals (simp;try omega)
theorem mK (st:eU) (f:Bool) (c b:UInt8) (at_:Int):(dL st f c b at_).1.length≤st.length+1:=by
  have h0:=wE st f c b at_;unfold dL
  repeat' (refine ek (fun x:eU×Bool=>x.1.length≤st.length+1) (fun _=>?_) (fun _=>?_))
  all_goals first
    | exact h0
    | (simp;done)
    | (simp;omega)
    | (cases st<;>simp)
theorem vp (st:eU) (f:Bool) (b:UInt8) (at_:Int):(eG st f b at_).1.length≤st.length+1:=by
  match st with
  | []=>simp[eG]
  | (c,p)::r=>
    have h1:=mK ((c,p)::r) f c b at_;have h2:=mK ((67,p)::r) f 67 b at_;have h3:=mK ((65,p)::r) f 65 b at_;unfold eG;refine ek (fun x:eU×Bool=>x.1.length≤r.length+1+1) (fun hc=>?_) (fun _=>?_)
    ·refine ek (fun x:eU×Bool=>x.1.length≤r.length+1+1) (fun _=>by simp) (fun _=>?_);refine ek (fun x:eU×Bool=>x.1.length≤r.length+1+1) (fun _=>?_) (fun _=>?_)
     ·cases r with
      | nil=>simp
      | cons x r=>exact ek (fun x:eU×Bool=>x.1.length≤_) (fun _=>by simp) (fun _=>by simp)
     ·refine ek (fun x:eU×Bool=>x.1.length≤r.length+1+1) (fun _=>by simp;omega) (fun _=>?_)
      cases r with
      | nil=>simp
      | cons x r=>exact Nat.le_succ_of_le (mK _ _ _ _ _)
    ·refine ek (fun x:eU×Bool=>x.1.length≤r.length+1+1) (fun _=>?_) (fun _=>?_)
     ·exact ek (fun x:eU×Bool=>x.1.length≤_) (fun _=>by simp) (fun _=>h2)
     ·refine ek (fun x:eU×Bool=>x.1.length≤r.length+1+1) (fun _=>?_) (fun _=>h1);exact ek (fun x:eU×Bool=>x.1.length≤_) (fun _=>by simp;omega) (fun _=>h3)
def fY (l:List UInt8):Nat→eU×Bool
  | 0=>([(84,0)],true)
  | k+1=>eG (fY l k).1 (fY l k).2 (l.getD k 0) k
theorem kU (l:List UInt8):∀k,l9 (fY l k).1
  | 0=>rfl
  | k+1=>vq _ _ _ _ (kU l k)
theorem ji (l:List UInt8):∀k,(fY l k).1.length≤k+1
  | 0=>by simp[fY]
  | k+1=>by
    have h1:=vp (fY l k).1 (fY l k).2 (l.getD k 0) k;have h2:=ji l k;simp only[fY];omega
def zQ (c:UInt8):Bool:=[84,67,80,66,68,86,73,65,82].contains c
def uM (c:UInt8):Bool:=[84,67,80,79,83,68,66,86,73,65,82,69,76,88,35].contains c
theorem sX (h:zQ c=true):uM c=true:=by
  have:=fg (fun c => !zQ c||uM c) (by decide +kernel) c
  simpa [h] using this
theorem LE (hv:uM c=true) (h1:c.toNat≠79) (h2:c.toNat≠69) (h3:c.toNat≠76) (h4:c.toNat≠88) (h5:c.toNat≠83) (h6:c.toNat≠35):zQ c=true:=by
  have:=fg (fun c => !uM c||c.toNat==79||c.toNat==69||c.toNat==76||c.toNat==88||c.toNat==83||c.toNat==35||zQ c) (by decide +kernel) c
  simpa [hv,h1,h2,h3,h4,h5,h6] using this
def og:eU→Prop
  | []=>True
  | (c,_)::r=>uM c=true∧∀y∈r,zQ y.1=true
theorem og.of_mid {r:eU} (h:∀y∈r,zQ y.1=true):og r:=by
  cases r with
  | nil=>trivial
  | cons x r=>exact⟨sX _ (h x (by simp)),fun y hy=>h y (by simp[hy])⟩
theorem og.push {c:UInt8} {r:eU} (hd:uM d=true) (hc:zQ c=true) (h:∀y∈r,zQ y.1=true):og ((d,q)::(c,p)::r):=
  ⟨hd,fun y hy=>by
    rcases br.1 hy with rfl|hy
    ·exact hc
    ·exact h y hy⟩
theorem og.turn {r:eU} (hd:uM d=true) (h:∀y∈r,zQ y.1=true):og ((d,q)::r):=⟨hd,h⟩
theorem Nf (h:c.toNat=66):zQ c=true:=by
  have:=fg (fun c => !(c.toNat==66)||zQ c) (by decide +kernel) c
  simpa [h] using this
theorem pW (p at_:Int) (hv:uM c=true) (h79:c.toNat≠79) (h69:c.toNat≠69) (h76:c.toNat≠76) (h:∀y∈r,zQ y.1=true):og (dL ((c,p)::r) f c b at_).1:=by
  unfold dL
  repeat' (refine ek (fun x:eU×Bool=>og x.1) (fun _=>?_) (fun _=>?_))
  all_goals first
    | exact rProgram_v _ _ _ _ _ _ hv (mid3 c (by omega)) h
    | exact⟨hv,h⟩
    | exact og.of_mid h
    | exact og.turn (by decide) h
    | exact og.push (by decide) (Nf c (by omega)) h
    | exact og.push (by decide) (LE c hv h79 h69 h76 (by omega) (by omega) (by omega)) h
theorem F2 (d:UInt8) (h:zQ d=true):d.toNat≠79∧d.toNat≠69∧d.toNat≠76:=by
  have:=fg (fun c => !zQ c||(c.toNat != 79&&c.toNat != 69&&c.toNat != 76)) (by decide +kernel) d
  simpa [h,and_assoc] using this
theorem I3 (st:eU) (f:Bool) (b:UInt8) (at_:Int) (h:og st):og (eG st f b at_).1:=by
  match st,h with
  | [],_=>trivial
  | (c,p)::r,⟨hv,h⟩=>
    unfold eG;refine ek (fun x:eU×Bool=>og x.1) (fun hc=>?_) (fun _=>?_)
    ·refine ek (fun x:eU×Bool=>og x.1) (fun _=>og.turn (by decide) h) (fun _=>?_);refine ek (fun x:eU×Bool=>og x.1) (fun _=>?_) (fun _=>?_)
     ·cases r with
      | nil=>exact og.turn (by decide) h
      | cons x r=>obtain⟨d,q⟩:=x;exact ek (fun x:eU×Bool=>og x.1) (fun _=>og.turn (by decide) h) (fun _=>og.turn (by decide) h)
     ·refine ek (fun x:eU×Bool=>og x.1) (fun _=>og.of_mid h) (fun _=>?_)
      cases r with
      | nil=>trivial
      | cons x r=>
        obtain⟨d,q⟩:=x;have hd:=h (d,q) (by simp);obtain⟨h1,h2,h3⟩:=F2 d hd;exact pW _ _ _ _ _ _ (sX _ hd) h1 h2 h3 (fun y hy=>h y (by simp[hy]))
    ·refine ek (fun x:eU×Bool=>og x.1) (fun _=>?_) (fun _=>?_)
     ·exact ek (fun x:eU×Bool=>og x.1) (fun _=>og.turn (by decide) h) (fun _=>pW _ _ _ _ _ _ (by decide) (by decide) (by decide) (by decide) h)
     ·refine ek (fun x:eU×Bool=>og x.1) (fun _=>?_) (fun _=>pW _ _ _ _ _ _ hv (by omega) (by omega) (by omega) h);exact ek (fun x:eU×Bool=>og x.1) (fun _=>og.of_mid h) (fun _=>pW _ _ _ _ _ _ (by decide) (by decide) (by decide) (by decide) h)
theorem sa (l:List UInt8):∀k,og (fY l k).1
  | 0=>⟨by decide,by simp⟩
  | k+1=>I3 _ _ _ _ (sa l k)
def nu (st:eU) (c:UInt8):Bool:=
  gR c&&(match st with
    | [_]=>true
    | [(d,_),_]=>decide (d.toNat=76)&&decide (c.toNat≠40)
    | _=>false)
def nt (stop:Nat→Bool):Nat→Nat→Nat
  | 0,k=>k
  | m+1,k=>if stop k=true then k else nt stop m (k+1)
theorem rK {k:Nat} (h:stop k=true):nt stop m k=k:=by
  cases m with
  | zero=>rfl
  | succ m=>simp[nt,h]
theorem tg {k:Nat} (h:stop k=false) (hm:0<m):nt stop m k=nt stop (m-1) (k+1):=by
  cases m with
  | zero=>omega
  | succ m=>simp[nt,h]
abbrev Lt (st:eU):List UInt8:=st.map (·.1)
def LR (x y:eU×Bool):Prop:=Lt x.1=Lt y.1∧x.2=y.2
theorem jO {α:Type} (R:α→α→Prop) {c:Prop} [Decidable c] {a b a' b':α} (h1:c→R a a') (h2:¬c→R b b'):R (if c then a else b) (if c then a' else b'):=by
  by_cases h:c
  ·rw[aD h,aD h];exact h1 h
  ·rw[aB h,aB h];exact h2 h
theorem Kn (h:Lt st=Lt st'):Lt st.tail=Lt st'.tail:=by
  simp only[Lt,List.map_tail];exact congrArg List.tail h
theorem qe (h:Lt st=Lt st') (f:Bool) (c b:UInt8) (p q:Int):LR (dL st f c b p) (dL st' f c b q):=by
  unfold dL
  repeat' (refine jO LR (fun _=>?_) (fun _=>?_))
  all_goals first
    | exact rProgram_l h _ _ _ _ _
    | exact⟨h,rfl⟩
    | exact⟨Kn h,rfl⟩
    | exact⟨congrArg (List.cons _) h,rfl⟩
    | (refine⟨?_,rfl⟩
       cases st<;>cases st'<;>simp_all [Lt])
theorem I5 (h:Lt st=Lt st') (f:Bool) (b:UInt8) (p q:Int):LR (eG st f b p) (eG st' f b q):=by
  match st,st',h with
  | [],[],_=>exact⟨rfl,rfl⟩
  | [],(_::_),h=>simp[Lt] at h
  | (_::_),[],h=>simp[Lt] at h
  | (c,x)::r,(c',x')::r',h=>
    simp only[Lt,cz,List.cons.injEq] at h;obtain⟨rfl,hr⟩:=h;have hc:Lt ((c,x)::r)=Lt ((c,x')::r'):=by simp[Lt,hr]
    unfold eG;refine jO LR (fun _=>?_) (fun _=>?_)
    ·refine jO LR (fun _=>⟨by simp[Lt,hr],rfl⟩) (fun _=>?_);refine jO LR (fun _=>?_) (fun _=>?_)
     ·match r,r',hr with
      | [],[],_=>exact⟨rfl,rfl⟩
      | [],(_::_),hr=>simp at hr
      | (_::_),[],hr=>simp at hr
      | (d,y)::r2,(d',y')::r2',hr=>
        simp only[cz,List.cons.injEq] at hr;obtain⟨rfl,hr⟩:=hr;exact jO LR (fun _=>⟨by simp[Lt,hr],rfl⟩) (fun _=>⟨by simp[Lt,hr],rfl⟩)
     ·refine jO LR (fun _=>⟨hr,rfl⟩) (fun _=>?_)
      match r,r',hr with
      | [],[],_=>exact⟨rfl,rfl⟩
      | [],(_::_),hr=>simp at hr
      | (_::_),[],hr=>simp at hr
      | (d,y)::r2,(d',y')::r2',hr=>
        have hr':=hr;simp only[cz,List.cons.injEq] at hr;obtain⟨rfl,_⟩:=hr;exact qe hr' _ _ _ _ _
    ·refine jO LR (fun _=>?_) (fun _=>?_)
     ·exact jO LR (fun _=>⟨by simp[Lt,hr],rfl⟩) (fun _=>qe (by simp[Lt,hr]) _ _ _ _ _)
     ·refine jO LR (fun _=>?_) (fun _=>qe hc _ _ _ _ _);exact jO LR (fun _=>⟨hr,rfl⟩) (fun _=>qe (by simp[Lt,hr]) _ _ _ _ _)
def iC (l:List UInt8) (a:Nat):Nat→eU×Bool
  | 0=>([(84,0)],true)
  | k+1=>eG (iC l a k).1 (iC l a k).2 (l.getD (a+k) 0) ((a+k:Nat):Int)
theorem B5 (l:List UInt8) (a:Nat):∀k,LR (iC l a k) (fY (l.drop a) k)
  | 0=>⟨rfl,rfl⟩
  | k+1=>by
    have ih:=B5 l a k;have e:(l.drop a).getD k 0=l.getD (a+k) 0:=by
      rw[aE,aE,cy]
    simp only[iC,fY];rw[e,←ih.2];exact I5 ih.1 _ _ _ _
theorem vu (l:List UInt8) (a:Nat):∀k,l9 (iC l a k).1
  | 0=>rfl
  | k+1=>vq _ _ _ _ (vu l a k)
theorem vt (l:List UInt8) (a:Nat):∀k,(iC l a k).1.length≤k+1
  | 0=>by simp[iC]
  | k+1=>by
    have h1:=vp (iC l a k).1 (iC l a k).2 (l.getD (a+k) 0) ((a+k:Nat):Int);have h2:=vt l a k;simp only[iC];omega
theorem L2 (h:Lt st=Lt st') (c:UInt8):nu st c=nu st' c:=by
  unfold nu;congr 1
  match st,st',h with
  | [],[],_=>rfl
  | [_],[_],_=>rfl
  | [(d,_),_],[(d',_),_],h=>
    simp[Lt] at h;simp[h.1]
  | (_::_::_::_),(_::_::_::_),_=>rfl
  | [],(_::_),h=>simp[Lt] at h
  | (_::_),[],h=>simp[Lt] at h
  | [_],(_::_::_),h=>simp[Lt] at h
  | (_::_::_),[_],h=>simp[Lt] at h
  | [_,_],(_::_::_::_),h=>simp[Lt] at h
  | (_::_::_::_),[_,_],h=>simp[Lt] at h
abbrev eV (st:eU):List Int:=st.map (·.2)
def oT (ps:List Int) (a:Int) (x:eU×Bool):Prop:=∃m,eV x.1=ps.drop m∨eV x.1=a::ps.drop m
theorem oT.same {f:Bool} {a:Int} (h:eV st'=eV st):oT (eV st) a (st',f):=⟨0,.inl h⟩
theorem oT.push {c:UInt8} {f:Bool} {a:Int}:oT (eV st) a ((c,a)::st,f):=⟨0,.inr rfl⟩
theorem oT.tail {f:Bool} {a:Int}:oT (eV st) a (st.tail,f):=⟨1,.inl (by simp[eV,List.drop_one,List.map_tail])⟩
theorem oT.deep {a:Int} (h:oT (eV st) a x):oT (eV (y::st)) a x:=by
  obtain⟨m,h⟩:=h;exact⟨m+1,by simpa [eV] using h⟩
theorem qa (st:eU) (f:Bool) (c b:UInt8) (a:Int):oT (eV st) a (dL st f c b a):=by
  unfold dL
  repeat' (refine ek (oT (eV st) a) (fun _=>?_) (fun _=>?_))
  all_goals first
    | exact rProgram_q _ _ _ _ _
    | exact oT.push
    | exact oT.tail
    | exact oT.same rfl
    | (refine oT.same ?_;cases st<;>rfl)
theorem I4 (st:eU) (f:Bool) (b:UInt8) (a:Int):oT (eV st) a (eG st f b a):=by
  match st with
  | []=>exact oT.same rfl
  | (c,p)::r=>
    unfold eG;refine ek (oT (eV ((c,p)::r)) a) (fun _=>?_) (fun _=>?_)
    ·refine ek (oT (eV ((c,p)::r)) a) (fun _=>oT.same rfl) (fun _=>?_);refine ek (oT (eV ((c,p)::r)) a) (fun _=>?_) (fun _=>?_)
     ·cases r with
      | nil=>exact oT.same rfl
      | cons y r=>exact ek (oT (eV ((c,p)::y::r)) a) (fun _=>oT.same rfl) (fun _=>oT.same rfl)
     ·refine ek (oT (eV ((c,p)::r)) a) (fun _=>(oT.same rfl).deep) (fun _=>?_)
      cases r with
      | nil=>exact(oT.same rfl).deep
      | cons y r=>exact(qa _ _ _ _ _).deep
    ·refine ek (oT (eV ((c,p)::r)) a) (fun _=>?_) (fun _=>?_)
     ·exact ek (oT (eV ((c,p)::r)) a) (fun _=>oT.same rfl) (fun _=>qa ((67,p)::r) _ _ _ _)
     ·refine ek (oT (eV ((c,p)::r)) a) (fun _=>?_) (fun _=>qa _ _ _ _ _);exact ek (oT (eV ((c,p)::r)) a) (fun _=>(oT.same rfl).deep) (fun _=>qa ((65,p)::r) _ _ _ _)
def XT (l:List UInt8) (k:Nat):eU:=(fY l k).1.dropLast
def FT (l:List UInt8) (k:Nat):eU:=(XT l k).reverse
theorem DN (h:l9 st):∃p,st=st.dropLast++[(84,p)]:=by
  induction st with
  | nil=>exact h.elim
  | cons x r ih=>
    cases r with
    | nil=>obtain⟨c,p⟩:=x;obtain rfl:c=84:=h;exact⟨p,rfl⟩
    | cons y r=>
      obtain⟨p,hp⟩:=ih h.2;exact⟨p,by rw[List.dropLast_cons_cons,bu,←hp]⟩
def sw (x:eU×Bool):Prop:=∀y∈x.1,y.1=84→y.2=0
theorem sw.cons {c:UInt8} {q:Int} {st:eU} {f g:Bool} (h:sw (st,f)) (hc:c≠84):sw ((c,q)::st,g):=by
  intro y hy e;rcases br.1 hy with rfl|hy
  ·exact absurd e hc
  ·exact h y hy e
theorem sw.tail {f:Bool} (h:sw (st,f)):sw (st.tail,g):=fun y hy=>h y (List.mem_of_mem_tail hy)
theorem sw.any {f:Bool} (h:sw (st,f)):sw (st,g):=h
theorem pV (st:eU) (f:Bool) (c b:UInt8) (a:Int) (h:sw (st,f)):sw (dL st f c b a):=by
  unfold dL
  repeat' (refine ek sw (fun _=>?_) (fun _=>?_))
  all_goals first
    | exact rProgram_z st f c b a h
    | exact h.any
    | exact h.cons (by decide)
    | exact h.tail
    | (cases st with
       | nil=>exact h.any
       | cons y r=>exact sw.cons (f:=f) (fun z hz=>h z (bG _ hz)) (by decide))
theorem I2 (st:eU) (f:Bool) (b:UInt8) (a:Int) (h:sw (st,f)):sw (eG st f b a):=by
  match st,h with
  | [],h=>exact h
  | (c,p)::r,h=>
    have hr:sw (r,f):=fun z hz=>h z (bG _ hz)
    unfold eG;refine ek sw (fun _=>?_) (fun _=>?_)
    ·refine ek sw (fun _=>hr.cons (by decide)) (fun _=>?_);refine ek sw (fun _=>?_) (fun _=>?_)
     ·cases r with
      | nil=>exact hr.cons (by decide)
      | cons y r=>exact ek sw (fun _=>hr.cons (by decide)) (fun _=>hr.cons (by decide))
     ·refine ek sw (fun _=>hr) (fun _=>?_)
      cases r with
      | nil=>exact hr
      | cons y r=>exact pV _ _ _ _ _ hr
    ·refine ek sw (fun _=>?_) (fun _=>?_)
     ·exact ek sw (fun _=>hr.cons (by decide)) (fun _=>pV _ _ _ _ _ (hr.cons (by decide)))
     ·refine ek sw (fun _=>?_) (fun _=>pV _ _ _ _ _ h);exact ek sw (fun _=>hr) (fun _=>pV _ _ _ _ _ (hr.cons (by decide)))
theorem Ks (l:List UInt8):∀k:Nat,sw (fY l k)
  | 0=>by intro y hy _;simp[fY] at hy;rw[hy]
  | k+1=>I2 _ _ _ _ (Ks l k)
theorem jD:(fY l k).1=XT l k++[(84,0)]:=by
  obtain⟨p,hp⟩:=DN (kU l k);have h0:p=0:=Ks l k (84,p) (by rw[hp];simp) rfl;subst h0;exact hp
theorem Ic:(fY l k).1.length=(XT l k).length+1:=by rw[jD];simp
theorem sP:(fY l k).1.reverse=(84,0)::FT l k:=by rw[jD];simp[FT]
theorem CL:∃m,eV (XT l (k+1))=(eV (XT l k)).drop m∨eV (XT l (k+1))=(k:Int)::(eV (XT l k)).drop m:=by
  obtain⟨m,h⟩:=I4 (fY l k).1 (fY l k).2 (l.getD k 0) k;have h':eV (fY l (k+1)).1=(eV (fY l k).1).drop m∨eV (fY l (k+1)).1=(k:Int)::(eV (fY l k).1).drop m:=h;rw[jD l (k+1),jD l k] at h';simp only[eV,cw,cz,List.map_nil] at h' ⊢;generalize (XT l (k+1)).map (·.2)=A at h' ⊢;generalize (XT l k).map (·.2)=B at h' ⊢;by_cases hm:m≤B.length
  ·rw[List.drop_append_of_le_length hm] at h';refine⟨m,h'.imp (fun e=>(List.append_left_inj _).1 e) (fun e=>?_)⟩;rw[←bu] at e
   exact(List.append_left_inj _).1 e
  ·rw[List.drop_eq_nil_of_le (by simp;omega)] at h';refine⟨B.length,.inl ?_⟩;rcases h' with e|e
   ·simp at e
   ·cases A with
    | nil=>simp
    | cons x A=>have:=congrArg List.length e;simp at this
theorem xz (l:List UInt8):∀k:Nat,(eV (XT l k)).Pairwise (· > ·)∧∀p∈eV (XT l k),0≤p∧p<(k:Int)
  | 0=>⟨List.Pairwise.nil,by intro p hp;simp[XT,fY,eV] at hp⟩
  | k+1=>by
    obtain⟨h1,h2⟩:=xz l k;obtain⟨m,h|h⟩:=CL l k
    ·rw[h];exact⟨h1.sublist (List.drop_sublist _ _),fun p hp=>by have:=h2 p (List.mem_of_mem_drop hp);omega⟩
    ·rw[h];refine⟨List.Pairwise.cons (fun p hp=>by have:=h2 p (List.mem_of_mem_drop hp);show (k:Int)>p;omega) (h1.sublist (List.drop_sublist _ _)),fun p hp=>?_⟩;rcases br.1 hp with rfl|hp
     ·omega
     ·have:=h2 p (List.mem_of_mem_drop hp);omega
theorem oU:(eV (FT l k)).Pairwise (· < ·)∧∀p∈eV (FT l k),0≤p∧p<(k:Int):=by
  obtain⟨h1,h2⟩:=xz l k;have e:eV (FT l k)=(eV (XT l k)).reverse:=by simp[eV,FT]
  rw[e];exact⟨List.pairwise_reverse.2 h1,fun p hp=>h2 p (List.mem_reverse.1 hp)⟩
theorem Ko:∃j,j≤(FT l k).length∧(eV (FT l (k+1))=(eV (FT l k)).take j∨eV (FT l (k+1))=(eV (FT l k)).take j++[(k:Int)]):=by
  obtain⟨m,h⟩:=CL l k;have e:∀k,eV (FT l k)=(eV (XT l k)).reverse:=by intro k;simp[eV,FT]
  refine⟨(FT l k).length-m,by omega,?_⟩;rw[e,e];have hl:(FT l k).length=(eV (XT l k)).length:=by simp[FT,eV]
  rw[hl,←List.reverse_drop];rcases h with h|h
  ·left;rw[h]
  ·right;rw[h];simp
structure fh where
  mode:Int
  fr:Int
  to:Int
  up:Int
  op:Bool
def dP:fh:=⟨0,0,0,0,false⟩
def kj (m:Int):Int:=if m=3 then 1 else if m=11 then 9 else m
def tj (c:UInt8):Int:=kj (eH c)
abbrev ia (l:List fh):List Int:=l.map (·.fr)
def ic (l:List fh) (p:Int):Nat:=(ia l).idxOf p
def qM (F:eU) (p:Int):Option UInt8:=(F.find? (fun x=>x.2==p)).map (·.1)
def sD (F:eU) (k1:Int) (q:fh):fh:=
  if q.op=true then (match qM F q.fr with
    | some c=>{q with mode:=tj c}
    | none=>{q with to:=k1,op:=false})
  else q
def D7 (F:eU) (l:List fh):Int:=match F.dropLast.getLast? with
  | none => -1
  | some y=>(ic l y.2:Int)
def mQ (F:eU) (k:Int) (l:List fh):List fh:=match F.getLast? with
  | none=>[]
  | some y=>if y.2=k then [⟨tj y.1,k,0,D7 F l,true⟩] else []
def eJ (l:List UInt8):Nat→List fh
  | 0=>[]
  | k+1=>(eJ l k).map (sD (FT l (k+1)) ((k:Int)+1))++mQ (FT l (k+1)) k (eJ l k)
theorem zW (F:eU) (k1:Int) (q:fh):(sD F k1 q).fr=q.fr:=by
  unfold sD;split
  ·split<;>rfl
  ·rfl
theorem Cu (F:eU) (k1:Int) (l:List fh):ia (l.map (sD F k1))=ia l:=by
  simp only[ia,dJ];exact cL fun q _=>zW F k1 q
theorem uy (h:p∈eV F):∃c,qM F p=some c∧(c,p)∈F:=by
  obtain⟨y,hy,he⟩:=bX.1 h
  cases hf:F.find? (fun x=>x.2==p) with
  | none=>have:=cW.1 hf y hy;simp[he] at this
  | some z=>
    have h1:=List.find?_some hf;have h2:=List.mem_of_find?_eq_some hf;simp at h1;obtain⟨c,q⟩:=z;simp at h1;subst h1;exact⟨c,by unfold qM;rw[hf];rfl,h2⟩
theorem pF (h:p∉eV F):qM F p=none:=by
  unfold qM;rw[cW.2]
  ·rfl
  ·intro y hy;simp only[aR];intro e;exact h (bX.2 ⟨y,hy,e⟩)
theorem oE {k:Int} {l:List fh} {c:UInt8} (h:F=G++[(c,k)]):mQ F k l=[⟨tj c,k,0,D7 F l,true⟩]:=by
  subst h;simp[mQ]
theorem oF {k:Int} {l:List fh} (h:∀p∈eV F,p≠k):mQ F k l=[]:=by
  unfold mQ
  cases hg:F.getLast? with
  | none=>rfl
  | some y=>
    have:y∈F:=List.mem_of_getLast? hg
    simp only;rw[aB (h y.2 (bX.2 ⟨y,this,rfl⟩))]
theorem mH:∃(j:Nat) (A B:eU),FT l (k+1)=A++B∧j≤(FT l k).length∧eV A=(eV (FT l k)).take j∧(B=[]∨∃c,B=[(c,(k:Int))]):=by
  obtain⟨j,hj,h⟩:=Ko l k;refine⟨j,(FT l (k+1)).take j,(FT l (k+1)).drop j,(dr _ _).symm,hj,?_,?_⟩
  ·rw[eV,List.map_take];rcases h with h|h
   ·rw[show (FT l (k+1)).map (·.2)=_ from h,List.take_take,Nat.min_self]
   ·rw[show (FT l (k+1)).map (·.2)=_ from h,List.take_append_of_le_length (by simp[eV];omega),List.take_take,Nat.min_self]
  ·have e:eV ((FT l (k+1)).drop j)=(eV (FT l (k+1))).drop j:=by simp[eV,List.map_drop]
   rcases h with h|h
   ·left
    rw[h,List.drop_take] at e;simpa [eV] using e
   ·right
    rw[h,List.drop_append,List.drop_take] at e;simp only[cm,eV,cH,de hj,Nat.sub_self,List.take_zero,bT,dt] at e
    match hd:(FT l (k+1)).drop j,e with
    | [(c,p)],e=>simp at e;exact⟨c,by rw[e]⟩
structure CI (l:List UInt8) (k:Nat):Prop where
  rise:(ia (eJ l k)).Pairwise (· < ·)
  bnd:∀p∈ia (eJ l k),0≤p∧p<(k:Int)
  opn:∀q∈eJ l k,(q.op=true↔q.fr∈eV (FT l k))
  sub:∀p∈eV (FT l k),p∈ia (eJ l k)
theorem zn (F:eU) (k:Int) (l:List fh):ia (mQ F k l)=[]∨ia (mQ F k l)=[k]:=by
  unfold mQ;split
  ·exact .inl rfl
  ·split
   ·exact .inr rfl
   ·exact .inl rfl
theorem jJ:ia (eJ l (k+1))=ia (eJ l k)++ia (mQ (FT l (k+1)) k (eJ l k)):=by
  simp only[eJ,ia,cw];congr 1;exact Cu _ _ _
theorem KW {k1:Int} {q:fh}:(sD F k1 q).op=true↔q.op=true∧q.fr∈eV F:=by
  unfold sD;by_cases ho:q.op=true
  ·rw[aD ho];by_cases hm:q.fr∈eV F
   ·obtain⟨c,hc,_⟩:=uy hm;rw[hc];simp[ho,hm]
   ·rw[pF hm];simp[hm]
  ·rw[aB ho];simp[ho]
theorem mC (l:List UInt8):∀k,CI l k
  | 0=>⟨List.Pairwise.nil,by intro p hp;simp[eJ,ia] at hp,by intro q hq;simp[eJ] at hq,by intro p hp;simp[FT,XT,fY,eV] at hp⟩
  | k+1=>by
    have ih:=mC l k;obtain⟨j,A,B,hF,hj,hA,hB⟩:=mH l k;have hr:=(oU l k);have hkP:(k:Int)∉eV (FT l k):=fun h=>by have:=hr.2 _ h;omega
    have hkC:(k:Int)∉ia (eJ l k):=fun h=>by have:=ih.bnd _ h;omega
    have hAsub:∀p∈eV A,p∈eV (FT l k):=fun p hp=>by rw[hA] at hp;exact cN hp
    refine⟨?_,?_,?_,?_⟩
    ·rw[jJ];rcases zn (FT l (k+1)) k (eJ l k) with h|h
     ·rw[h,bz];exact ih.rise
     ·rw[h,dx];exact⟨ih.rise,List.pairwise_singleton _ _,fun a ha b hb=>by simp at hb;subst hb;exact(ih.bnd a ha).2⟩
    ·intro p hp;rw[jJ] at hp;rcases aZ.1 hp with hp|hp
     ·have:=ih.bnd p hp;omega
     ·rcases zn (FT l (k+1)) k (eJ l k) with h|h
      ·rw[h] at hp;cases hp
      ·rw[h] at hp;simp at hp;omega
    ·intro q hq;simp only[eJ] at hq;rcases aZ.1 hq with hq|hq
     ·obtain⟨q0,hq0,rfl⟩:=bX.1 hq;rw[KW,zW,ih.opn q0 hq0];constructor
      ·exact fun h=>h.2
      ·intro h;refine⟨?_,h⟩;rw[hF,eV,cw] at h;rcases aZ.1 h with h|h
       ·exact hAsub _ h
       ·exfalso;rcases hB with rfl|⟨c,rfl⟩
        ·cases h
        ·simp at h;exact hkC (h▸bX.2 ⟨q0,hq0,rfl⟩)
     ·rcases hB with rfl|⟨c,rfl⟩
      ·rw[oF] at hq
       ·cases hq
       ·intro p hp e;subst e;rw[hF,bz] at hp;exact hkP (hAsub _ hp)
      ·rw[oE hF] at hq;simp at hq;subst hq;simp[hF,eV]
    ·intro p hp;rw[jJ];rw[hF,eV,cw] at hp;rcases aZ.1 hp with hp|hp
     ·exact List.mem_append_left _ (ih.sub p (hAsub p hp))
     ·rcases hB with rfl|⟨c,rfl⟩
      ·cases hp
      ·rw[oE hF];exact List.mem_append_right _ (by simpa [ia] using hp)
def jg (fs:List (Int×Int)) (a:Int):Nat→List fh→List Nat→List fh×List Nat
  | 0,l,h=>(l,h)
  | n+1,l,h=>
    if n+1≤fs.length∧(fs.getD n (0,0)).2=(l.getD (h.getD n 0) dP).fr then (l,h)
    else jg fs a n (l.set (h.getD n 0) {l.getD (h.getD n 0) dP with to:=a+1,op:=false}) (h.take n)
def fL:List (Int×Int)→Nat→List fh→List Nat→List fh×List Nat
  | [],_,l,h=>(l,h)
  | f::fs,i,l,h=>
    if i<h.length then fL fs (i+1) (l.set (h.getD i 0) {l.getD (h.getD i 0) dP with mode:=kj f.1}) h
    else fL fs (i+1) (l++[⟨kj f.1,f.2,0,if 0<i then ((h.getD (i-1) 0:Nat):Int) else -1,true⟩]) (h++[l.length])
def An (fs:List (Int×Int)) (a:Int) (l:List fh) (h:List Nat):List fh×List Nat:=
  let x:=jg fs a h.length l h
  fL fs 0 x.1 x.2
theorem Bm {l:List fh} (h:p∈ia l):ic l p<l.length:=by
  have:=dA h
  simpa [ic,ia] using this
theorem Gp {l:List fh} (h:p∈ia l):(l.getD (ic l p) dP).fr=p:=by
  have hl:=Bm h;have h1:(ia l)[ic l p]'(by simpa [ia] using hl)=p:=List.getElem_idxOf (dA h);rw[aE,ax hl];simpa [ia] using h1
theorem EM {l:List fh} (hr:(ia l).Pairwise (· < ·)) (hi:i<l.length) (hj:j<l.length) (e:l[i].fr=l[j].fr):i=j:=by
  rcases Nat.lt_trichotomy i j with h|h|h
  ·have:=bN.1 hr i j (by simpa [ia] using hi) (by simpa [ia] using hj) h
   simp[ia] at this;omega
  ·exact h
  ·have:=bN.1 hr j i (by simpa [ia] using hj) (by simpa [ia] using hi) h
   simp[ia] at this;omega
theorem BS {l:List fh} (hr:(ia l).Pairwise (· < ·)) (hp:p∈ia l) (f:fh→fh):l.set (ic l p) (f (l.getD (ic l p) dP))=l.map fun q=>if q.fr=p then f q else q:=by
  have hl:=Bm hp;have hf:=Gp hp;apply List.ext_getElem (by simp);intro i h1 h2;have hi:i<l.length:=by simpa using h1
  rw[List.getElem_map];by_cases e:i=ic l p
  ·subst e;rw[List.getElem_set_self,aE,ax hl] at *;simp only[Option.getD_some] at hf ⊢;rw[aD hf]
  ·rw[List.getElem_set_ne (Ne.symm e)];rw[aB];intro e2;apply e;apply EM hr hi hl;rw[e2];rw[aE,ax hl] at hf;exact hf.symm
def pI (a:Int) (q:fh):fh:={q with to:=a+1,op:=false}
theorem Bp (P:fh→Prop) [DecidablePred P] (f:fh→fh) (hf:∀q,(f q).fr=q.fr) (l:List fh):ia (l.map fun q=>if P q then f q else q)=ia l:=by
  simp only[ia,dJ];refine cL fun q _=>?_
  simp only[Function.comp];split
  ·exact hf q
  ·rfl
theorem CY (hP:P.Nodup) (j:Nat) (hj:j≤P.length) (hfs:fs.map (·.2)=P.take j∨∃k,k∉P∧fs.map (·.2)=P.take j++[k]) :
    ∀(n:Nat) (l:List fh),j≤n→n≤P.length→(ia l).Pairwise (· < ·)→(∀p∈P,p∈ia l) →
     jg fs a n l ((P.map (ic l)).take n)=(l.map (fun q=>if q.fr∈(P.take n).drop j then pI a q else q),(P.map (ic l)).take j):=by
  have hfl:fs.length=j∨(fs.length=j+1∧∃k,k∉P∧fs.map (·.2)=P.take j++[k]):=by
    rcases hfs with h|⟨k,hk,h⟩
    ·left;have:=congrArg List.length h;simp at this;omega
    ·right;refine⟨?_,k,hk,h⟩;have:=congrArg List.length h;simp at this;omega
  have hat:∀i,i<j→(fs.getD i (0,0)).2=P.getD i 0:=by
    intro i hi;have h1:(fs.map (·.2))[i]? = P[i]? := by
      rcases hfs with h|⟨k,hk,h⟩
      ·rw[h,dj,aD hi]
      ·rw[h,aW (by simp;omega),dj,aD hi]
    rw[bc] at h1;rw[aE,aE,←h1]
    cases h2:fs[i]? with
    | none=>
      exfalso;rw[List.getElem?_eq_none_iff] at h2;omega
    | some x=>rfl
  intro n
  induction n with
  | zero=>
    intro l h0 _ hr hs;obtain rfl:j=0:=by omega
    simp[jg]
  | succ n ih=>
    intro l h0 h1 hr hs;have hn:n<P.length:=by omega
    have hPn:P[n]∈ia l:=hs _ (List.getElem_mem hn);have hg:((P.map (ic l)).take (n+1)).getD n 0=ic l P[n]:=by
      rw[aE,dj,aD (by omega),bc,ax hn];rfl
    unfold jg;rw[hg,Gp hPn];by_cases hjn:j=n+1
    ·have hc:=hat n (by omega);rw[aE (l:=P),ax hn] at hc;rw[aD ⟨by rcases hfl with h|h<;>omega,hc⟩];rw[show (P.take (n+1)).drop j=[] by rw[hjn];simp];simp[hjn]
    ·have hne:¬(n+1≤fs.length∧(fs.getD n (0,0)).2=P[n]):=by
       rintro ⟨h2,h3⟩;rcases hfl with h|⟨h,k,hk,hfk⟩
       ·omega
       ·obtain rfl:n=j:=by omega
        have h4:(fs.map (·.2))[n]? = some k:=by
          rw[hfk,aX (by simp;omega)];simp[de hj]
        rw[bc] at h4;rw[aE] at h3
        cases h5:fs[n]? with
        | none=>rw[h5] at h4;cases h4
        | some x=>
          rw[h5] at h3 h4;simp at h3 h4;exact hk (by rw[←h4,h3];exact List.getElem_mem hn)
     rw[aB hne];have hset:=BS hr hPn (pI a);unfold pI at hset;rw[hset];have hfr:ia (l.map fun q=>if q.fr=P[n] then ({q with to:=a+1,op:=false}:fh) else q)=ia l:=Bp (fun q=>q.fr=P[n]) (pI a) (fun _=>rfl) l;have hix:∀p,ic (l.map fun q=>if q.fr=P[n] then ({q with to:=a+1,op:=false}:fh) else q) p=ic l p:=fun p=>by unfold ic;rw[hfr]
     have hih:=ih (l.map fun q=>if q.fr=P[n] then ({q with to:=a+1,op:=false}:fh) else q) (by omega) (by omega) (by rw[hfr];exact hr) (by rw[hfr];exact hs);have hmap:P.map (ic (l.map fun q=>if q.fr=P[n] then ({q with to:=a+1,op:=false}:fh) else q))=P.map (ic l):=cL fun p _=>hix p
     rw[hmap] at hih;rw[List.take_take,de (by omega),hih];congr 1;rw[dJ];refine cL fun q _=>?_
     have hsp:(P.take (n+1)).drop j=(P.take n).drop j++[P[n]]:=by
       rw[bM hn,List.drop_append_of_le_length (by simp;omega)]
     have hnd:P[n]∉(P.take n).drop j:=by
       intro hm;have hm':=List.mem_of_mem_drop hm;rw[di] at hP;obtain⟨i,hi,e⟩:=List.mem_take_iff_getElem.1 hm'
       have:=bN.1 hP i n (by omega) hn (by omega)
       exact this e
     rw[hsp];simp only[Function.comp];by_cases e:q.fr=P[n]
     ·rw[aD e,aB (show ¬({q with to:=a+1,op:=false}:fh).fr∈(P.take n).drop j by show ¬q.fr∈_;rw[e];exact hnd),aD (show q.fr∈(P.take n).drop j++[P[n]] by simp[e])];rfl
     ·rw[aB e];by_cases e2:q.fr∈(P.take n).drop j
      ·rw[aD e2,aD (by simp[e2])]
      ·rw[aB e2,aB (by simp[e2,e])]
def xu (A:List (Int×Int)) (q:fh):fh:=match A.find? (fun x=>x.2==q.fr) with
  | some x=>{q with mode:=kj x.1}
  | none=>q
theorem tD (B:List (Int×Int)):∀(A:List (Int×Int)) (i:Nat) (l:List fh) (h:List Nat),(ia l).Pairwise (· < ·)→(∀x∈A,x.2∈ia l)→(A.map (·.2)).Nodup →
    (∀t x,A[t]? = some x→h[i+t]? = some (ic l x.2))→fL (A++B) i l h=fL B (i+A.length) (l.map (xu A)) h
  | [],i,l,h,_,_,_,_=>by
    have:l.map (xu [])=l:=by
      rw[show (xu [])=id from funext fun q=>rfl,List.map_id]
    rw[this];rfl
  | f::A,i,l,h,hr,hm,hn,hh=>by
    have h0:=hh 0 f rfl;rw[Nat.add_zero] at h0;have hil:i<h.length:=(ay.1 h0).1;have hgi:h.getD i 0=ic l f.2:=by rw[aE,h0];rfl
    have hf:=hm f (by simp);rw[bu];have hu:fL (f::(A++B)) i l h=fL (A++B) (i+1) (l.set (h.getD i 0) {l.getD (h.getD i 0) dP with mode:=kj f.1}) h:=by rw[fL,aD hil]
    rw[hu,hgi];have hset:=BS hr hf (fun q=>{q with mode:=kj f.1});rw[hset];have hfr:ia (l.map fun q=>if q.fr=f.2 then ({q with mode:=kj f.1}:fh) else q)=ia l:=Bp (fun q=>q.fr=f.2) (fun q=>{q with mode:=kj f.1}) (fun _=>rfl) l;rw[cz,List.nodup_cons] at hn;rw[tD B A (i+1) _ h (by rw[hfr];exact hr) (fun x hx=>by rw[hfr];exact hm x (by simp[hx])) hn.2 (fun t x hx=>by
      unfold ic;rw[hfr]
      have:=hh (t+1) x (by simpa using hx)
      rw[show i+(t+1)=i+1+t by omega] at this;exact this)]
    rw[dJ,aP,show i+1+A.length=i+(A.length+1) by omega];congr 1;refine cL fun q _=>?_
    simp only[Function.comp];by_cases e:q.fr=f.2
    ·rw[aD e];have e1:A.find? (fun x=>x.2==q.fr)=none:=by
       rw[cW];intro x hx;simp only[aR];intro e2;exact hn.1 (bX.2 ⟨x,hx,by rw[e2,e]⟩)
     unfold xu;simp only[e1];rw[List.find?_cons_of_pos (by simp[e])]
    ·rw[aB e];unfold xu;rw[List.find?_cons_of_neg (by simp;exact fun h=>e h.symm)]
def kM (l:List UInt8) (k:Nat):List Nat:=(eV (FT l k)).map (ic (eJ l k))
def oM (F:eU):List (Int×Int):=F.map fun x=>(eH x.1,x.2)
theorem te (F:eU):(oM F).map (·.2)=eV F:=by simp[oM,eV]
theorem uw (F:eU) (p:Int):(oM F).find? (fun x=>x.2==p)=(F.find? (fun x=>x.2==p)).map fun x=>(eH x.1,x.2):=by
  unfold oM;rw[List.find?_map];rfl
theorem CX:An (oM (FT l (k+1))) k (eJ l k) (kM l k)=(eJ l (k+1),kM l (k+1)):=by
  have ci:=mC l k;obtain⟨j,A,B,hF,hj,hA,hB⟩:=mH l k;have hr:=oU l k;have hnd:(eV (FT l k)).Nodup:=by rw[di];exact hr.1.imp (fun h=>by omega)
  have hkP:(k:Int)∉eV (FT l k):=fun h=>by have:=hr.2 _ h;omega
  have hkC:(k:Int)∉ia (eJ l k):=fun h=>by have:=ci.bnd _ h;omega
  have hjl:j≤(eV (FT l k)).length:=by simpa [eV] using hj
  have hlen:(kM l k).length=(eV (FT l k)).length:=by simp[kM]
  have hpop:=CY (oM (FT l (k+1))) k (eV (FT l k)) hnd j hjl (by
    rw[te,hF,eV,cw];rw[show A.map (·.2)=_ from hA];rcases hB with rfl|⟨c,rfl⟩
    ·left;simp
    ·right;exact⟨k,hkP,rfl⟩) (eV (FT l k)).length (eJ l k) hjl (au _) ci.rise ci.sub
  rw[bR (au _),bR (by simp)] at hpop;unfold An;rw[hlen];show (let x:=jg _ _ _ _ ((eV (FT l k)).map (ic (eJ l k)));fL _ 0 x.1 x.2)=_;rw[hpop];simp only;have hfsA:oM (FT l (k+1))=oM A++oM B:=by rw[hF];simp[oM]
  have hAmem:∀p∈eV A,p∈eV (FT l k):=fun p hp=>by rw[hA] at hp;exact cN hp
  have hfr1:ia ((eJ l k).map fun q=>if q.fr∈(eV (FT l k)).drop j then pI k q else q)=ia (eJ l k):=Bp (fun q=>q.fr∈(eV (FT l k)).drop j) (pI k) (fun _=>rfl) _;have hAl:A.length=j:=by have:=congrArg List.length hA;simp[eV] at this;simp[eV] at hjl;omega
  rw[hfsA,tD (oM B) (oM A) 0 _ _ (by rw[hfr1];exact ci.rise) (fun x hx=>by
    rw[hfr1]
    have:x.2∈eV A:=by rw[←te];exact bX.2 ⟨x,hx,rfl⟩
    exact ci.sub _ (hAmem _ this)) (by rw[te,hA];exact hnd.sublist (List.take_sublist _ _)) (fun t x hx=>by
    unfold ic;rw[hfr1,cM];have h1:(eV A)[t]? = some x.2:=by rw[←te,bc,hx];rfl
    have ht:t<j:=by have:=(ay.1 h1).1;rw[←hAl];simpa [eV] using this
    rw[hA,dj,aD ht] at h1;rw[dj,aD ht,bc,h1];rfl)]
  have hlist:(((eJ l k).map fun q=>if q.fr∈(eV (FT l k)).drop j then pI k q else q).map (xu (oM A)))=(eJ l k).map (sD (FT l (k+1)) ((k:Int)+1)):=by
    rw[dJ];refine cL fun q hq=>?_
    have hqf:q.fr∈ia (eJ l k):=bX.2 ⟨q,hq,rfl⟩;have hqk:q.fr≠(k:Int):=fun e=>hkC (e▸hqf)
    simp only[Function.comp];have htd:q.fr∈eV (FT l k)↔q.fr∈(eV (FT l k)).take j∨q.fr∈(eV (FT l k)).drop j:=by
      rw[←aZ,dr]
    have hFmem:q.fr∈eV (FT l (k+1))↔q.fr∈eV A:=by
      rw[hF,eV,cw,aZ];constructor
      ·rintro (h|h)
       ·exact h
       ·rcases hB with rfl|⟨c,rfl⟩
        ·cases h
        ·simp at h;exact absurd h hqk
      ·exact .inl
    have hopn:=ci.opn q hq;by_cases hd:q.fr∈(eV (FT l k)).drop j
    ·have hnt:q.fr∉eV A:=by
       rw[hA];intro ht;rw[←dr j (eV (FT l k))] at hnd
       exact(List.nodup_append.1 hnd).2.2 _ ht _ hd rfl
     rw[aD hd];have ho:q.op=true:=hopn.2 (htd.2 (.inr hd));have e1:(oM A).find? (fun x=>x.2==(pI (k:Int) q).fr)=none:=by
       rw[uw,Option.map_eq_none_iff,cW];intro y hy;simp only[aR];intro e;exact hnt (bX.2 ⟨y,hy,e⟩)
     unfold xu sD;rw[aD ho,pF (fun h=>hnt (hFmem.1 h))];simp only[e1];rfl
    ·rw[aB hd];by_cases ht:q.fr∈eV A
     ·have ho:q.op=true:=hopn.2 (hAmem _ ht);obtain⟨y,hy,hye⟩:=bX.1 ht;have hsome:(A.find? (fun x=>x.2==q.fr)).isSome=true:=by
        rw[List.find?_isSome];exact⟨y,hy,by simp[hye]⟩
      obtain⟨z,hz⟩:=Option.isSome_iff_exists.1 hsome;have e1:(oM A).find? (fun x=>x.2==q.fr)=some (eH z.1,z.2):=by rw[uw,hz];rfl
      have e2:qM (FT l (k+1)) q.fr=some z.1:=by unfold qM;rw[hF,List.find?_append,hz];rfl
      unfold xu sD;rw[aD ho];simp only[e1,e2];rfl
     ·have hno:¬q.op=true:=fun h=>by
        rcases htd.1 (hopn.1 h) with h1|h1
        ·rw[←hA] at h1;exact ht h1
        ·exact hd h1
      have e1:(oM A).find? (fun x=>x.2==q.fr)=none:=by
        rw[uw,Option.map_eq_none_iff,cW];intro y hy;simp only[aR];intro e;exact ht (bX.2 ⟨y,hy,e⟩)
      unfold xu sD;rw[aB hno];simp only[e1]
  rw[hlist];have hhA:((eV (FT l k)).map (ic (eJ l k))).take j=(eV A).map (ic (eJ l k)):=by rw[hA,List.map_take]
  rw[hhA];have hixm:∀m:List fh,ia m=ia (eJ l k)→∀p,ic m p=ic (eJ l k) p:=fun m hm p=>by unfold ic;rw[hm]
  have hfu:ia ((eJ l k).map (sD (FT l (k+1)) ((k:Int)+1)))=ia (eJ l k):=Cu _ _ _;have hfsl:(oM A).length=j:=by simp[oM,hAl]
  rw[cM,hfsl];have hold:∀p∈eV A,ic (eJ l (k+1)) p=ic (eJ l k) p:=by
    intro p hp;unfold ic;rw[jJ,List.idxOf_append,aD (ci.sub p (hAmem p hp))]
  rcases hB with rfl|⟨c,rfl⟩
  ·have hnew:mQ (FT l (k+1)) k (eJ l k)=[]:=oF (by
     intro p hp e;subst e;rw[hF,bz] at hp;exact hkP (hAmem _ hp))
   show fL [] _ _ _=_;rw[show eJ l (k+1)=(eJ l k).map (sD (FT l (k+1)) ((k:Int)+1))++mQ (FT l (k+1)) k (eJ l k) from rfl,hnew,bz];unfold fL kM;rw[Prod.mk.injEq];refine⟨rfl,?_⟩;rw[hF,bz]
   exact(cL fun p hp=>hold p hp).symm
  ·have hnew:=oE (k:=(k:Int)) (l:=eJ l k) hF;show fL [(eH c,(k:Int))] _ _ _=_;unfold fL;have hnl:¬j<((eV A).map (ic (eJ l k))).length:=by simp[eV,hAl]
   rw[aB hnl];unfold fL;rw[show eJ l (k+1)=(eJ l k).map (sD (FT l (k+1)) ((k:Int)+1))++mQ (FT l (k+1)) k (eJ l k) from rfl,hnew];rw[Prod.mk.injEq];constructor
   ·congr 1;simp only[List.cons.injEq,and_true];congr 1;unfold D7;rw[hF,List.dropLast_concat];rcases Nat.eq_zero_or_pos j with h0|h0
    ·have:A=[]:=bP (by omega)
     subst this;simp[h0]
    ·rw[aD h0];obtain⟨G,y,rfl⟩:∃G y,A=G++[y]:=by
       rcases List.eq_nil_or_concat A with h|⟨G,y,h⟩
       ·subst h;simp at hAl;omega
       ·exact⟨G,y,by simpa using h⟩
     simp at hAl;simp only[List.getLast?_append,List.getLast?_singleton,Option.some_or];rw[aE,bc]
     have:(eV (G++[y]))[j-1]? = some y.2:=by
       simp only[eV,cw,cz,List.map_nil];rw[aX (by simp;omega)];simp[show j-1-G.length=0 by omega]
     rw[this];rfl
   ·have hP1:eV (FT l (k+1))=eV A++[(k:Int)]:=by rw[hF];simp[eV]
    have hC:ia (eJ l (k+1))=ia (eJ l k)++[(k:Int)]:=by rw[jJ,hnew];rfl
    unfold kM;rw[hP1,cw,cz,List.map_nil];congr 1
    ·exact(cL fun p hp=>(hold p hp).symm)
    ·rw[cH];unfold ic;rw[hC,List.idxOf_append,aB hkC];simp[ia]
def jm (c:UInt8):Bool:=decide (eT c=5)
def gz (c:UInt8):Bool:=decide (eT c=6)
def iD (c:UInt8):Bool:=jm c||gz c
def oG (l:List UInt8):Nat:=match l with
  | []=>0
  | c::_=>if jm c=true then (l.takeWhile iD).length else 0
def sE (c:UInt8):Bool:=[64,42,35,63,45,36,33].contains c
def yA (l:List UInt8):Nat:=if 0<oG l then oG l else match l with
  | []=>0
  | c::_=>if sE c=true∨gz c=true then 1 else 0
def pn (l:List UInt8) (i:Nat):Nat:=yA (l.drop i)
def ls (n:Int) (q:fh):fh:=if q.op=true then {q with to:=n} else q
def nV (l:List UInt8) (q:fh):fh:=if q.mode=12 then {q with to:=q.fr+1+(pn l (q.fr+1).toNat:Int),op:=false} else q
def nU (l:List UInt8) (q:fh):fh:=nV l (ls l.length q)
def eC (l:List UInt8):List fh:=(eJ l l.length).map (nU l)
theorem zq (n:Int) (q:fh):(ls n q).fr=q.fr:=by unfold ls;split<;>rfl
theorem JO (q:fh):(nV l q).fr=q.fr:=by unfold nV;split<;>rfl
theorem Cw (q:fh):(nU l q).fr=q.fr:=by unfold nU;rw[JO,zq]
def xF (F:eU) (p:Int):Nat:=if p∈eV F then (eV F).idxOf p+1 else 0
def iT (F:Nat→eU) (fr:Int) (n:Nat):Nat→Nat→fh→fh
  | 0,_,q=>q
  | m+1,k,q=>if xF (F k) fr=0 then {q with to:=k,op:=false} else iT F fr n m (k+1) {q with mode:=tj ((F k).getD (n-1) (0,0)).1}
def D6 (n:Nat) (p:Int):List fh→Nat→Int→Int
  | [],_,u=>u
  | q::l,k,u=>D6 n p l (k+1) (if 1<n∧q.fr=p then (k:Int) else u)
def FD (l:List UInt8) (f:Nat) (out:List fh):fh:=
  nV l (iT (FT l) f (xF (FT l (f+1)) f) (l.length-f) (f+1) ⟨0,f,l.length,D6 (xF (FT l (f+1)) f) ((eV (FT l (f+1))).getD (xF (FT l (f+1)) f-2) 0) out 0 (-1),true⟩)
def kz (l:List UInt8):Nat→List fh
  | 0=>[]
  | f+1=>kz l f++(if xF (FT l (f+1)) f=0 then [] else [FD l f (kz l f)])
def l7 (l:List UInt8):Nat→Nat→fh→fh
  | 0,_,q=>q
  | m+1,k,q=>l7 l m (k+1) (sD (FT l k) k q)
theorem vN (l:List UInt8):∀(m a:Nat) (q:fh),l7 l (m+1) a q=sD (FT l (a+m)) ((a+m:Nat):Int) (l7 l m a q)
  | 0,a,q=>rfl
  | m+1,a,q=>by
    show l7 l (m+1) (a+1) _=_;rw[vN l m (a+1)];rw[show a+1+m=a+(m+1) by omega];rfl
theorem Cx (l:List UInt8):∀(m a:Nat) (q:fh),(l7 l m a q).fr=q.fr
  | 0,_,_=>rfl
  | m+1,a,q=>by show (l7 l m (a+1) _).fr=_;rw[Cx l m,zW]
theorem vO (l:List UInt8):∀(m a:Nat) (q:fh),q.op=false→l7 l m a q=q
  | 0,_,_,_=>rfl
  | m+1,a,q,h=>by
    show l7 l m (a+1) _=_
    have:sD (FT l a) a q=q:=by unfold sD;rw[aB (by rw[h];simp)]
    rw[this,vO l m (a+1) q h]
theorem nT {l:List α} {f g:α→List β} (h:∀x∈l,f x=g x):l.flatMap f=l.flatMap g:=by
  rw[List.flatMap_def,List.flatMap_def,cL h]
theorem uI (l:List UInt8):∀k,eJ l k=(List.range k).flatMap fun f=>(mQ (FT l (f+1)) f (eJ l f)).map (l7 l (k-(f+1)) (f+2))
  | 0=>rfl
  | k+1=>by
    rw[List.range_succ,List.flatMap_append];show (eJ l k).map _++_=_;congr 1
    ·conv=>lhs;rw[uI l k]
     rw[List.map_flatMap];refine nT fun f hf=>?_
     have hfk:=cI.1 hf;rw[dJ];refine cL fun q _=>?_
     simp only[Function.comp];rw[show k+1-(f+1)=(k-(f+1))+1 by omega,vN,show f+2+(k-(f+1))=k+1 by omega];rfl
    ·simp only[List.flatMap_cons,List.flatMap_nil,bz];rw[Nat.sub_self];show _=List.map (fun q=>q) _;rw[List.map_id']
theorem qV:(eV (FT l k)).Nodup:=by rw[di];exact(oU l k).1.imp (fun h=>by omega)
theorem rC {P:List Int} (h:P.Nodup) (hi:P[i]? = some p) (hj:P[j]? = some p):i=j:=by
  obtain⟨h1,h2⟩:=ay.1 hi;obtain⟨h3,h4⟩:=ay.1 hj;rw[di] at h;rcases Nat.lt_trichotomy i j with e|e|e
  ·exact absurd (h2.trans h4.symm) (bN.1 h i j h1 h3 e)
  ·exact e
  ·exact absurd (h4.trans h2.symm) (bN.1 h j i h3 h1 e)
theorem lj (f n:Nat) (h0:(eV (FT l (f+1)))[n]? = some (f:Int)):∀k,f+1≤k→(f:Int)∈eV (FT l k)→(eV (FT l k))[n]? = some (f:Int):=by
  intro k hk
  induction k with
  | zero=>omega
  | succ k ih=>
    intro hm;by_cases e:k=f
    ·subst e;exact h0
    ·obtain⟨j,A,B,hF,hj,hA,hB⟩:=mH l k;have hmA:(f:Int)∈eV A:=by
       rw[hF,eV,cw] at hm;rcases aZ.1 hm with h|h
       ·exact h
       ·rcases hB with rfl|⟨c,rfl⟩
        ·cases h
        ·simp at h;omega
     have hmt:=hmA;rw[hA] at hmt;have ih':=ih (by omega) (cN hmt);obtain⟨i,hi,hie⟩:=List.mem_take_iff_getElem.1 hmt;have hij:i=n:=rC (qV l k) (ay.2 ⟨by omega,hie⟩) ih';rw[hF,eV,cw,aW (by
       have:=congrArg List.length hA
       simp[eV] at this ⊢;simp[eV] at hi;omega)]
     rw[show A.map (·.2)=eV A from rfl,hA,dj,aD (by omega)];exact ih'
theorem zu (h:(eV F).Nodup) (hi:F[i]? = some y):qM F y.2=some y.1:=by
  have hm:y.2∈eV F:=bX.2 ⟨y,aO hi,rfl⟩;obtain⟨c,hc,hcm⟩:=uy hm;obtain⟨j,hj⟩:=dq.1 hcm;have e1:(eV F)[i]? = some y.2:=by rw[bc,hi];rfl
  have e2:(eV F)[j]? = some y.2:=by rw[bc,hj];rfl
  have:=rC h e1 e2
  subst this;rw[hi] at hj;injection hj with hj
  rw[hc,hj]
theorem kn:xF F p=0↔p∉eV F:=by unfold xF;split<;>simp_all
theorem zO (h:p∈eV F):(eV F)[xF F p-1]? = some p∧1≤xF F p:=by
  unfold xF;rw[aD h];refine⟨?_,by omega⟩;rw[dI,ax (dA h)];exact congrArg some (List.getElem_idxOf (dA h))
theorem ot (l:List UInt8) (f n:Nat) (hn:∀k,f+1≤k→(f:Int)∈eV (FT l k)→(eV (FT l k))[n-1]? = some (f:Int)):∀(m k:Nat) (q:fh),q.op=true→q.fr=f→f+1≤k →
    iT (FT l) f n m k {q with to:=l.length}=ls l.length (l7 l m k q)
  | 0,k,q,ho,hf,hk=>by unfold iT l7 ls;rw[aD ho]
  | m+1,k,q,ho,hf,hk=>by
    unfold iT;by_cases hm:(f:Int)∈eV (FT l k)
    ·rw[aB (fun h=>kn.1 h hm)];have h1:=hn k hk hm;rw[bc] at h1
     cases hy:(FT l k)[n-1]? with
     | none=>rw[hy] at h1;cases h1
     | some y=>
       rw[hy] at h1;simp at h1;have h2:=zu (qV l k) hy;rw[h1] at h2;have hu:sD (FT l k) k q={q with mode:=tj y.1}:=by unfold sD;rw[aD ho,hf,h2]
       have hg:((FT l k).getD (n-1) (0,0)).1=y.1:=by rw[aE,hy];rfl
       rw[hg];show iT (FT l) f n m (k+1) {({q with mode:=tj y.1}:fh) with to:=l.length}=ls l.length (l7 l m (k+1) (sD (FT l k) k q));rw[hu];exact ot l f n hn m (k+1) {q with mode:=tj y.1} ho hf (by omega)
    ·rw[aD (kn.2 hm)];have hu:sD (FT l k) k q={q with to:=k,op:=false}:=by unfold sD;rw[aD ho,hf,pF hm]
     show _=ls l.length (l7 l m (k+1) (sD (FT l k) k q));rw[hu,vO _ _ _ _ rfl];rfl
theorem wi (n:Nat) (p:Int):∀(l:List fh) (k:Nat) (u:Int),(1<n→p∉ia l)→D6 n p l k u=u
  | [],_,_,_=>rfl
  | q::l,k,u,h=>by
    unfold D6;rw[aB (fun hh=>h hh.1 (by simp[ia,hh.2]))];exact wi n p l (k+1) u (fun hn hm=>h hn (by simp only[ia,cz,br];exact .inr hm))
theorem BJ (n:Nat) (p:Int) (hn:1<n):∀(l:List fh) (k:Nat) (u:Int),(ia l).Nodup→p∈ia l→D6 n p l k u=((k+ic l p:Nat):Int)
  | [],_,_,_,h=>by simp[ia] at h
  | q::l,k,u,hd,h=>by
    unfold D6;simp only[ia,cz,List.nodup_cons] at hd;by_cases e:q.fr=p
    ·rw[aD ⟨hn,e⟩,wi n p l (k+1) k (fun _ hm=>hd.1 (by rw[e];exact hm))];simp[ic,ia,List.idxOf_cons,e]
    ·rw[aB (fun hh=>e hh.2)];have hm:p∈ia l:=by
       simp only[ia,cz,br] at h;rcases h with h|h
       ·exact absurd h.symm e
       ·exact h
     rw[BJ n p hn l (k+1) u hd.2 hm]
     have:ic (q::l) p=ic l p+1:=by
       simp only[ic,ia,cz,List.idxOf_cons]
       have:(q.fr==p)=false:=by simpa using e
       rw[this];rfl
     rw[this];congr 1;omega
theorem po (l:List UInt8):∀f,f≤l.length→kz l f=(List.range f).flatMap (fun f=>(mQ (FT l (f+1)) f (eJ l f)).map fun q=>nU l (l7 l (l.length-(f+1)) (f+2) q))∧ia (kz l f)=ia (eJ l f)
  | 0,_=>⟨rfl,rfl⟩
  | f+1,hf=>by
    obtain⟨ih,ihf⟩:=po l f (by omega);have ci:=mC l f;obtain⟨j,A,B,hF,hj,hA,hB⟩:=mH l f;have hkP:(f:Int)∉eV (FT l f):=fun h=>by have:=(oU l f).2 _ h;omega
    have hAmem:∀p∈eV A,p∈eV (FT l f):=fun p hp=>by rw[hA] at hp;exact cN hp
    rcases hB with rfl|⟨c,rfl⟩
    ·have hno:(f:Int)∉eV (FT l (f+1)):=by rw[hF,bz];exact fun h=>hkP (hAmem _ h)
     have hnew:mQ (FT l (f+1)) f (eJ l f)=[]:=oF (fun p hp e=>hno (e▸hp));have e:kz l (f+1)=kz l f:=by show kz l f++_=_;rw[aD (kn.2 hno),bz]
     rw[e];refine⟨?_,?_⟩
     ·rw[List.range_succ,List.flatMap_append,←ih];simp[hnew]
     ·rw[jJ,hnew,ihf];simp[ia]
    ·have hnew:=oE (k:=(f:Int)) (l:=eJ l f) hF;have hyes:(f:Int)∈eV (FT l (f+1)):=by rw[hF];simp[eV]
     have hAl:(f:Int)∉eV A:=fun h=>hkP (hAmem _ h)
     have hn:xF (FT l (f+1)) f=A.length+1:=by
       unfold xF;rw[aD hyes,hF,eV,cw,List.idxOf_append,aB hAl];simp
     have hidx:∀k,f+1≤k→(f:Int)∈eV (FT l k)→(eV (FT l k))[xF (FT l (f+1)) f-1]? = some (f:Int):=lj l f _ (zO hyes).1;have hup:D6 (xF (FT l (f+1)) f) ((eV (FT l (f+1))).getD (xF (FT l (f+1)) f-2) 0) (kz l f) 0 (-1)=D7 (FT l (f+1)) (eJ l f):=by
       rw[hn];unfold D7;rw[hF,List.dropLast_concat];rcases List.eq_nil_or_concat A with h|⟨G,y,h⟩
       ·subst h;rw[wi _ _ _ _ _ (fun h=>by simp at h)];rfl
       ·have h':A=G++[y]:=by simpa using h
        have hyA:y.2∈eV A:=by rw[h'];simp[eV]
        rw[h'];simp only[List.getLast?_append,List.getLast?_singleton,Option.some_or];have hp:(eV ((G++[y])++[(c,(f:Int))])).getD ((G++[y]).length+1-2) 0=y.2:=by
          rw[aE];simp only[eV,cw,cz,List.map_nil,aH,aP,bI];rw[aW (by simp),aX (by simp)];simp
        rw[hp,BJ _ _ (by simp) _ _ _ (by rw[ihf,di];exact ci.rise.imp (fun h=>by omega)) (by rw[ihf];exact ci.sub _ (hAmem _ hyA))];rw[cM];unfold ic;rw[ihf]
     have e:kz l (f+1)=kz l f++[nU l (l7 l (l.length-(f+1)) (f+2) ⟨tj c,f,0,D7 (FT l (f+1)) (eJ l f),true⟩)]:=by
       show kz l f++_=_;rw[aB (fun h=>kn.1 h hyes)];congr 2;unfold FD nU;congr 1;rw[hup,show l.length-f=(l.length-(f+1))+1 by omega];have hs:=ot l f _ hidx (l.length-(f+1)+1) (f+1) ⟨0,f,0,D7 (FT l (f+1)) (eJ l f),true⟩ rfl rfl (au _);rw[hs];show ls _ (l7 l (l.length-(f+1)) (f+2) (sD (FT l (f+1)) ((f+1:Nat):Int) ⟨0,f,0,D7 (FT l (f+1)) (eJ l f),true⟩))=_;congr 2;unfold sD;rw[aD rfl];have hfa:qM (FT l (f+1)) (f:Int)=some c:=zu (y:=(c,(f:Int))) (qV l (f+1)) (i:=A.length) (by rw[hF];simp);simp only[hfa]
     rw[e];refine⟨?_,?_⟩
     ·rw[List.range_succ,List.flatMap_append,←ih];simp[hnew]
     ·rw[jJ,hnew,ia,cw,show (kz l f).map (·.fr)=_ from ihf];simp only[cz,List.map_nil,Cw,Cx]
theorem tR:kz l l.length=eC l:=by
  unfold eC;rw[(po l l.length (au _)).1];conv=>rhs;rw[uI]
  rw[List.map_flatMap];refine nT fun f _=>?_
  rw[dJ];rfl
def zV (st:eU):Prop:=∀y∈st,y.1.toNat≠76
theorem zV.tail (h:zV st):zV st.tail:=fun y hy=>h y (List.mem_of_mem_tail hy)
theorem zV.cons {st:eU} {c:UInt8} {p:Int} (h:zV st) (hc:c.toNat≠76):zV ((c,p)::st):=by
  intro y hy;rcases br.1 hy with rfl|hy
  ·exact hc
  ·exact h y hy
theorem zV.of_cons (h:zV (y::st)):zV st:=fun z hz=>h z (bG _ hz)
def DR (a:Int) (x:eU×Bool):Prop:=zV x.1∨∃d q r,x.1=((76:UInt8),a)::(d,q)::r∧zV ((d,q)::r)∧(d.toNat≠88∧d.toNat≠79∧d.toNat≠69)∧(d.toNat=84∨d.toNat=67∨d.toNat=80→x.2=false)
theorem AB (q:Int) (r:eU) (f:Bool) (b:UInt8) (a:Int) (h:zV ((c,q)::r)) (hc:c.toNat≠88∧c.toNat≠79∧c.toNat≠69):DR a (dU ((c,q)::r) f c b a):=by
  unfold dU
  repeat' (refine ek (DR a) (fun _=>?_) (fun _=>?_))
  all_goals first
    | exact .inl h
    | exact .inl h.tail
    | exact .inr ⟨c,q,r,rfl,h,hc,fun _=>rfl⟩
    | exact .inl (h.cons (by decide))
theorem qg (q:Int) (r:eU) (f:Bool) (b:UInt8) (a:Int) (h:zV ((c,q)::r)) (h1:c.toNat≠79) (h2:c.toNat≠69):DR a (dL ((c,q)::r) f c b a):=by
  unfold dL;refine ek (DR a) (fun h3=>AB c q r f b a h ⟨by omega,h1,h2⟩) (fun h3=>?_);refine ek (DR a) (fun _=>.inl h.tail) (fun h4=>?_);have hd:c.toNat≠88∧c.toNat≠79∧c.toNat≠69:=⟨h4,h1,h2⟩
  repeat' (refine ek (DR a) (fun _=>?_) (fun _=>?_))
  all_goals first
    | exact .inl h
    | exact .inl h.tail
    | exact .inr ⟨c,q,r,rfl,h,hd,fun hh=>absurd hh h3⟩
    | exact .inl (h.cons (by decide))
    | exact .inl (h.of_cons.cons (by decide))
theorem I6 (st:eU) (f:Bool) (b:UInt8) (a0 a:Int) (h:DR a0 (st,f)):DR a (eG st f b a):=by
  rcases h with h|⟨d,q,r,he,h,hd,hf⟩
  ·match st,h with
   | [],h=>exact .inl h
   | (c,p)::r,h=>
     have hc:c.toNat≠76:=h (c,p) (db ..);unfold eG;simp only;rw[aB hc];refine ek (DR a) (fun _=>?_) (fun h1=>?_)
     ·exact ek (DR a) (fun _=>.inl (zV.cons h.of_cons (by decide))) (fun _=>qg 67 p r f b a (zV.cons h.of_cons (by decide)) (by decide) (by decide))
     ·refine ek (DR a) (fun _=>?_) (fun h2=>qg c p r f b a h h1 h2);exact ek (DR a) (fun _=>.inl h.of_cons) (fun _=>qg 65 p r f b a (zV.cons h.of_cons (by decide)) (by decide) (by decide))
  ·simp only at he;subst he;unfold eG;simp only;rw[aD (by decide)];refine ek (DR a) (fun _=>.inl (h.cons (by decide))) (fun _=>?_);refine ek (DR a) (fun _=>?_) (fun _=>?_)
   ·exact ek (DR a) (fun _=>.inl (h.cons (by decide))) (fun _=>.inl (h.cons (by decide)))
   ·exact ek (DR a) (fun _=>.inl h) (fun _=>qg d q r f b a h hd.2.1 hd.2.2)
theorem Kt (l:List UInt8):∀k:Nat,DR ((k:Int)-1) (fY l k)
  | 0=>.inl (by intro y hy;simp[fY] at hy;rw[hy];decide)
  | k+1=>by
    have:=I6 (fY l k).1 (fY l k).2 (l.getD k 0) _ k (Kt l k)
    rw[show ((k+1:Nat):Int)-1=k by omega];exact this
def gJ (l:List UInt8) (a k:Nat):Bool:=nu (fY (l.drop a) k).1 (l.getD (a+k) 0)
def js (l:List UInt8) (a:Nat):Nat:=nt (gJ l a) (l.length-a) 0
def mA (c:UInt8):List UInt8:=
  if c.toNat=83 then [39] else if c.toNat=68 then [34] else if c.toNat=66 then [96] else if c.toNat=86∨c.toNat=73 then [125]
  else if c.toNat=67∨c.toNat=79∨c.toNat=80∨c.toNat=82∨c.toNat=69 then [41] else if c.toNat=65 then [41,41] else if c.toNat=88∨c.toNat=35 then [10] else []
theorem zM:(mA c).length≤2:=by
  unfold mA;repeat' split
  all_goals simp
def Mc (st:eU):List UInt8:=st.flatMap fun x=>mA x.1
theorem zL (p:Int) (r:eU):Mc ((c,p)::r)=mA c++Mc r:=rfl
end Go.Proofs.YtcagfamdoaoimaaGreatDoor
