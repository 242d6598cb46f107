/- Plain functions of chapters 4 and 6: the classes of bytes, and the machine of modes as the program and as the reference have it. No program is in sight. -/
import Derived.Lib.Hide
import Derived.WalkKit
set_option linter.unusedVariables false
set_option linter.unusedSimpArgs false
set_option maxRecDepth 100000
set_option maxHeartbeats 8000000
namespace Go.Proofs.YtcagfamdoaoimaaGreatDoor
section
open Go.RowKit
abbrev aa:=@Lib.hid
abbrev ac:=@And.intro
abbrev ae:=@List.setIfInBounds_toArray
abbrev ai:=@List.getElem_cons_succ
abbrev aj:=@List.getElem_cons_zero
abbrev am:=@List.getElem_toArray
abbrev an:=@List.set_cons_zero
abbrev ar:=@List.set_cons_succ
abbrev au:=@Nat.le_refl
abbrev ax:=@List.getElem?_eq_getElem
abbrev ay:=@beq_eq_false_iff_ne
abbrev az:=@List.getElem?_eq_some_iff
abbrev aA:=@Nat.le_trans
abbrev aB:=@if_neg
abbrev aC:=@if_pos
abbrev aD:=@Below.refl
abbrev aE:=@List.getD_eq_getElem?_getD
abbrev aF:=@Decidable.em
abbrev aG:=@List.length_append
abbrev aH:=@bodyPost_ret
abbrev aI:=@decide_eq_true
abbrev aJ:=@Array.getElem?_eq_some_iff
abbrev aK:=@Bool.false_eq_true
abbrev aL:=@beq_false_of_ne
abbrev aM:=@List.getElem?_cons_zero
abbrev aN:=@beq_iff_eq
abbrev aO:=@List.getElem?_toArray
abbrev aP:=@decide_eq_false
abbrev aQ:=@List.length_cons
abbrev aR:=@callsIn_wide
abbrev aS:=@Bool.and_eq_true
abbrev aT:=@List.mem_of_getElem?
abbrev aU:=@IntWalk.i64_in
abbrev aV:=@Bool.eq_iff_iff
abbrev aW:=@Below.alloc
abbrev aX:=@List.getElem?_append_left
abbrev aY:=@List.getElem?_append_right
abbrev aZ:=@List.getElem?_map
abbrev bc:=@Exit.noGoto_normal
abbrev bj:=@Nat.le_of_lt
abbrev bp:=@World.size_alloc
abbrev bq:=@Nat.lt_of_lt_of_le
abbrev br:=@Nat.zero_le
abbrev bu:=@if_false
abbrev bv:=@Nat.succ_le_succ
abbrev bz:=@List.take_succ_eq_append_getElem
abbrev bA:=@Exit.noGoto_ret
abbrev bB:=@List.eq_nil_of_length_eq_zero
abbrev bC:=@List.mem_append
abbrev bE:=@List.length_take
abbrev bF:=@List.take_of_length_le
abbrev bG:=@List.append_nil
abbrev bH:=@Below.heap_setCell
abbrev bI:=@List.append_assoc
abbrev bJ:=@List.cons_append
abbrev bK:=@List.all_eq_true
abbrev bM:=@Nat.le_succ
abbrev bN:=@if_true
abbrev bP:=@List.mem_cons
abbrev bQ:=@Array.replicate_succ
abbrev bR:=@Array.replicate_zero
abbrev bS:=@List.length_nil
abbrev bT:=@World.ownsRow_nil
abbrev bU:=@List.getElem?_drop
abbrev bV:=@List.append_toArray
abbrev bW:=@List.IsPrefix.trans
abbrev bX:=@List.map_cons
abbrev bY:=@wp_region_lit
abbrev bZ:=@List.getElem?_eq_none
abbrev cg:=@decide_eq_true_eq
abbrev cj:=@List.nil_append
abbrev cm:=@List.map_append
abbrev cq:=@Nat.lt_or_ge
abbrev cw:=@List.mem_cons_of_mem
abbrev cx:=@List.size_toArray
abbrev cy:=@List.push_toArray
abbrev cz:=@info_parts
abbrev cC:=@Nat.zero_add
abbrev cD:=@List.length_map
abbrev cE:=@List.mem_map
abbrev cF:=@wpList_step
abbrev cG:=@List.take_succ_cons
abbrev cH:=@List.map_congr_left
abbrev cI:=@List.drop_eq_getElem_cons
abbrev cJ:=@List.mem_of_mem_take
abbrev cK:=@Below.grown
abbrev cL:=@Nat.min_eq_left
abbrev cM:=@List.getElem?_cons_succ
abbrev cN:=@wpList_nil
abbrev cO:=@Int.toNat_natCast
abbrev cP:=@Oper.semAt_some
abbrev cQ:=@UInt8.toNat_inj
abbrev cR:=@List.mem_range
abbrev cS:=@Bool.true_and
abbrev cT:=@of_decide_eq_true
abbrev cU:=@Nat.mul_le_mul_right
abbrev cV:=@Bool.false_and
abbrev cW:=@List.nodup_iff_pairwise_ne
abbrev db:=@List.getElem?_take
abbrev dc:=@List.pairwise_iff_getElem
abbrev de:=@wp_loop_rounds
abbrev dh:=@List.mem_cons_self
abbrev di:=@Below.heap_alloc
abbrev dj:=@results_tmp
abbrev dk:=@rounds_succ
abbrev dm:=@List.idxOf_lt_length_of_mem
abbrev dq:=@List.takeWhile_cons_of_pos
abbrev dr:=@List.takeWhile_cons_of_neg
abbrev dt:=@List.drop_zero
abbrev du:=@Bool.or_eq_true
abbrev dv:=@Classical.byContradiction
abbrev dw:=@List.mem_iff_getElem?
abbrev dx:=@List.length_singleton
abbrev dy:=@List.take_append_drop
abbrev dA:=@Nat.lt_succ_self
abbrev dB:=@Nat.add_assoc
abbrev dC:=@List.takeWhile_cons
abbrev dD:=@callsIn_of_wp
abbrev dE:=@ne_eq
abbrev dF:=@List.length_drop
abbrev dG:=@List.find?_eq_none
abbrev dH:=@bne_iff_ne
abbrev dI:=@Below.drew
end
theorem fh (p:UInt8→Bool) (h:(List.range 256).all (fun n=>p (UInt8.ofNat n))=true) (c:UInt8):p c=true:=by
  have h1:=bK.1 h c.toNat (cR.2 c.toNat_lt)
  rwa [UInt8.ofNat_toNat] at h1
def fi (c:UInt8):Int:=
  if c.toNat=32∨c.toNat=9 then 1
  else if c.toNat=10 then 2
  else if 48≤c.toNat∧c.toNat≤57 then 6
  else if (97≤c.toNat∧c.toNat≤122)∨(65≤c.toNat∧c.toNat≤90)∨c.toNat=95 then 5
  else if c.toNat=124∨c.toNat=38∨c.toNat=59∨c.toNat=60∨c.toNat=62∨c.toNat=40∨c.toNat=41 then 3
  else if c.toNat=92∨c.toNat=39∨c.toNat=34∨c.toNat=96∨c.toNat=36 then 4
  else 0
def gY (c:UInt8):Bool:=decide (fi c=1∨fi c=2∨fi c=3)
def eG (c:UInt8):Int:=
  if c.toNat=84 then 0 else if c.toNat=67 then 1 else if c.toNat=80 then 2 else if c.toNat=79 then 3 else if c.toNat=83 then 4 else if c.toNat=68 then 5 else if c.toNat=66 then 6
  else if c.toNat=86 then 7 else if c.toNat=73 then 8 else if c.toNat=65 then 9 else if c.toNat=82 then 10 else if c.toNat=69 then 11 else if c.toNat=76 then 12 else if c.toNat=88 then 13 else if c.toNat=35 then 14 else 15
def uN (c:UInt8) (l:List UInt8):Bool:=l.any fun d=>decide (d.toNat=c.toNat)
theorem yM (c:UInt8) (l:List UInt8) (k:Nat) (h:k<l.length):uN c (l.take (k+1))=(uN c (l.take k)||decide ((l[k]'h).toNat=c.toNat)):=by
  unfold uN;rw[bz h,List.any_append];simp
theorem yN (c:UInt8) (l:List UInt8) (k:Nat) (h:uN c (l.take k)=true):uN c l=true:=by
  unfold uN at h ⊢;rw[List.any_eq_true] at h ⊢;obtain⟨x,hx,hp⟩:=h;exact⟨x,cJ hx,hp⟩
def Gj:List UInt8:=[124,38,59,60,62,40,41]
def Ch:List UInt8:=[92,39,34,96,36]
def yK:List UInt8:=[65,66,67,68,69,70,71,72,73,74,75,76,77,78,79,80,81,82,83,84,85,86,87,88,89,90,97,98,99,100,101,102,103,104,105,106,107,108,109,110,111,112,113,114,115,116,117,118,119,120,121,122,95]
def Ci:List UInt8:=[48,49,50,51,52,53,54,55,56,57]
def Cy (c:UInt8):Int:=
  if c.toNat=32∨c.toNat=9 then 1 else if c.toNat=10 then 2 else if uN c Gj=true then 3 else if uN c Ch=true then 4 else if uN c yK=true then 5 else if uN c Ci=true then 6 else 0
theorem Hp (c:UInt8):Cy c=fi c:=by
  have h:=fh (fun c=>Cy c==fi c) (by decide +kernel) c;simpa using h
def gk (c:UInt8):List UInt8:=if c.toNat=92 then [88] else if c.toNat=36 then [76] else if c.toNat=96 then [66] else []
abbrev ff:=List (UInt8×Int)
variable {g:Bool} {p q:Int} {m i j:Nat} {stop:Nat→Bool} {st st' F G:ff} {x:ff×Bool} {α β:Type} {d:UInt8} {y:UInt8×Int} (r:ff) (fs:List (Int×Int)) (f:Bool) (a:Int) (l:List UInt8) (P:List Int) (c b:UInt8) (k:Nat)
def rS (st:ff):List UInt8:=(st.map (·.1)).reverse
def rP (st:ff):List Int:=(st.map (·.2)).reverse
theorem kM (st:ff):(rS st).length=st.length:=by simp[rS]
theorem ww (st:ff):(rP st).length=st.length:=by simp[rP]
theorem oH (p:Int) (st:ff):rS ((c,p)::st)=rS st++[c]:=by simp[rS]
theorem wy (p:Int) (st:ff):rP ((c,p)::st)=rP st++[p]:=by simp[rP]
theorem BQ (p:Int) (st:ff) (n:Nat) (h:st.length=n):(rS ((c,p)::st)).take n=rS st:=by rw[oH,←h,←kM st,List.take_left]
theorem I8 (p:Int) (st:ff) (n:Nat) (h:st.length=n):(rP ((c,p)::st)).take n=rP st:=by rw[wy,←h,←ww st,List.take_left]
def dU (st:ff) (f:Bool) (c b:UInt8) (at_:Int):ff×Bool:=
  if b.toNat=92 then ((88,at_)::st,f)
  else if b.toNat=39 then ((83,at_)::st,false)
  else if b.toNat=34 then ((68,at_)::st,false)
  else if b.toNat=96 then ((66,at_)::st,false)
  else if b.toNat=36 then ((76,at_)::st,false)
  else if b.toNat=35∧f=true then ((35,at_)::st,f)
  else if b.toNat=40 then (if c.toNat=84 then (st,true) else ((80,at_)::st,true))
  else if b.toNat=41 then (if c.toNat=84 then (st,true) else (st.tail,decide (c.toNat=80)))
  else (st,gY b)
def dK (st:ff) (f:Bool) (c b:UInt8) (at_:Int):ff×Bool:=
  if c.toNat=84∨c.toNat=67∨c.toNat=80 then dU st f c b at_
  else if c.toNat=88 then (st.tail,if b.toNat=10 then f else false)
  else if c.toNat=83 then (if b.toNat=39 then (st.tail,f) else (st,f))
  else if c.toNat=35 then (if b.toNat=10 then (st.tail,true) else (st,f))
  else if c.toNat=66 then (if b.toNat=96 then (st.tail,f) else if b.toNat=92 then ((88,at_)::st,f) else (st,f))
  else if b.toNat=92 then ((88,at_)::st,f)
  else if b.toNat=36 then ((76,at_)::st,f)
  else if b.toNat=96 then ((66,at_)::st,f)
  else if c.toNat=65∨c.toNat=82 then
    (if b.toNat=40 then ((82,at_)::st,f) else if b.toNat=41∧c.toNat=82 then (st.tail,f)
     else if b.toNat=41 then (match st with|[]=>[]|(_,p)::r=>(69,p)::r,f) else (st,f))
  else if c.toNat=68 then (if b.toNat=34 then (st.tail,f) else (st,f))
  else if b.toNat=34 then ((68,at_)::st,f)
  else if b.toNat=125 then (st.tail,f)
  else if b.toNat=39∧c.toNat=86 then ((83,at_)::st,f)
  else (st,f)
def ez (st:ff) (f:Bool) (b:UInt8) (at_:Int):ff×Bool:=
  match st with
  | []=>([],f)
  | (c,p)::r=>
    if c.toNat=76 then
      (if b.toNat=40 then ((79,p)::r,true)
       else if b.toNat=123 then
         (match r with
          | (d,_)::_=>if d.toNat=68∨d.toNat=73 then ((73,p)::r,f) else ((86,p)::r,f)
          | []=>((86,p)::r,f))
       else if b.toNat=36 then (r,f)
       else match r with
          | (d,_)::_=>dK r f d b at_
          | []=>(r,f))
    else if c.toNat=79 then
      (if b.toNat=40 then ((65,p)::r,false) else dK ((67,p)::r) f 67 b at_)
    else if c.toNat=69 then
      (if b.toNat=41 then (r,f) else dK ((65,p)::r) f 65 b at_)
    else dK st f c b at_
def mE:ff→Prop
  | []=>False
  | [(c,_)]=>c=84
  | (c,_)::r=>c≠84∧mE r
theorem mE.ne (h:mE st):st≠[]:=by rintro rfl;exact h
theorem mE.single {c:UInt8} (h:mE [(c,p)]):c=84:=h
theorem mE.cons {c:UInt8} {p:Int} {st:ff} (hc:c≠84) (h:mE st):mE ((c,p)::st):=by
  cases st with
  | nil=>exact h.elim
  | cons x r=>exact⟨hc,h⟩
theorem mE.tail {c:UInt8} (hc:c≠84) (h:mE ((c,p)::st)):mE st:=by
  cases st with
  | nil=>exact(hc h).elim
  | cons x r=>exact h.2
theorem mE.turn {c:UInt8} (hc:c≠84) (hd:d≠84) (h:mE ((c,p)::st)):mE ((d,q)::st):=(h.tail hc).cons hd
theorem mE.turn' {c:UInt8} (hc:c.toNat≠84) (hd:d≠84) (h:mE ((c,p)::st)):mE ((d,q)::st):=h.turn (fun e=>hc (by rw[e];rfl)) hd
theorem mE.tail' {c:UInt8} (hc:c.toNat≠84) (h:mE ((c,p)::st)):mE st:=h.tail (fun e=>hc (by rw[e];rfl))
theorem ei {α:Type} (P:α→Prop) {c:Prop} [Decidable c] {a b:α} (h1:c→P a) (h2:¬c→P b):P (if c then a else b):=by
  by_cases h:c
  ·rw[aC h];exact h1 h
  ·rw[aB h];exact h2 h
theorem ng (p at_:Int) (h:mE ((c,p)::r)):mE (dK ((c,p)::r) f c b at_).1:=by
  unfold dK
  repeat' (refine ei (fun x:ff×Bool=>mE x.1) (fun _=>?_) (fun _=>?_))
  all_goals first
    | exact rProgram_bot _ _ _ _ _ _ h
    | exact h
    | exact h.cons (by decide)
    | exact h.tail' (by omega)
    | exact h.turn' (by omega) (by decide)
theorem vk (st:ff) (f:Bool) (b:UInt8) (at_:Int) (h:mE st):mE (ez st f b at_).1:=by
  match st,h with
  | (c,p)::r,h=>
    unfold ez;refine ei (fun x:ff×Bool=>mE x.1) (fun hc=>?_) (fun _=>?_)
    ·have ht:=h.tail' (by omega);refine ei (fun x:ff×Bool=>mE x.1) (fun _=>h.turn' (by omega) (by decide)) (fun _=>?_);refine ei (fun x:ff×Bool=>mE x.1) (fun _=>?_) (fun _=>?_)
     ·cases r with
      | nil=>exact h.turn' (by omega) (by decide)
      | cons x r=>
        obtain⟨d,q⟩:=x;exact ei (fun x:ff×Bool=>mE x.1) (fun _=>h.turn' (by omega) (by decide)) (fun _=>h.turn' (by omega) (by decide))
     ·refine ei (fun x:ff×Bool=>mE x.1) (fun _=>ht) (fun _=>?_)
      cases r with
      | nil=>exact ht
      | cons x r=>obtain⟨d,q⟩:=x;exact ng _ _ _ _ _ _ ht
    ·refine ei (fun x:ff×Bool=>mE x.1) (fun _=>?_) (fun _=>?_)
     ·exact ei (fun x:ff×Bool=>mE x.1) (fun _=>h.turn' (by omega) (by decide)) (fun _=>ng _ _ _ _ _ _ (h.turn' (by omega) (by decide)))
     ·refine ei (fun x:ff×Bool=>mE x.1) (fun _=>?_) (fun _=>ng _ _ _ _ _ _ h);exact ei (fun x:ff×Bool=>mE x.1) (fun _=>h.tail' (by omega)) (fun _=>ng _ _ _ _ _ _ (h.turn' (by omega) (by decide)))
theorem wu (st:ff) (f:Bool) (c b:UInt8) (at_:Int):(dU st f c b at_).1.length≤st.length+1:=by
  unfold dU
  repeat' (refine ei (fun x:ff×Bool=>x.1.length≤st.length+1) (fun _=>?_) (fun _=>?_))
  all_goals (simp;try omega)
theorem mZ (st:ff) (f:Bool) (c b:UInt8) (at_:Int):(dK st f c b at_).1.length≤st.length+1:=by
  have h0:=wu st f c b at_;unfold dK
  repeat' (refine ei (fun x:ff×Bool=>x.1.length≤st.length+1) (fun _=>?_) (fun _=>?_))
  all_goals first
    | exact h0
    | (simp;done)
    | (simp;omega)
    | (cases st<;>simp)
theorem vj (st:ff) (f:Bool) (b:UInt8) (at_:Int):(ez st f b at_).1.length≤st.length+1:=by
  match st with
  | []=>simp[ez]
  | (c,p)::r=>
    have h1:=mZ ((c,p)::r) f c b at_;have h2:=mZ ((67,p)::r) f 67 b at_;have h3:=mZ ((65,p)::r) f 65 b at_;unfold ez;refine ei (fun x:ff×Bool=>x.1.length≤r.length+1+1) (fun hc=>?_) (fun _=>?_)
    ·refine ei (fun x:ff×Bool=>x.1.length≤r.length+1+1) (fun _=>by simp) (fun _=>?_);refine ei (fun x:ff×Bool=>x.1.length≤r.length+1+1) (fun _=>?_) (fun _=>?_)
     ·cases r with
      | nil=>simp
      | cons x r=>exact ei (fun x:ff×Bool=>x.1.length≤_) (fun _=>by simp) (fun _=>by simp)
     ·refine ei (fun x:ff×Bool=>x.1.length≤r.length+1+1) (fun _=>by simp;omega) (fun _=>?_)
      cases r with
      | nil=>simp
      | cons x r=>exact Nat.le_succ_of_le (mZ _ _ _ _ _)
    ·refine ei (fun x:ff×Bool=>x.1.length≤r.length+1+1) (fun _=>?_) (fun _=>?_)
     ·exact ei (fun x:ff×Bool=>x.1.length≤_) (fun _=>by simp) (fun _=>h2)
     ·refine ei (fun x:ff×Bool=>x.1.length≤r.length+1+1) (fun _=>?_) (fun _=>h1);exact ei (fun x:ff×Bool=>x.1.length≤_) (fun _=>by simp;omega) (fun _=>h3)
def fZ (l:List UInt8):Nat→ff×Bool
  | 0=>([(84,0)],true)
  | k+1=>ez (fZ l k).1 (fZ l k).2 (l.getD k 0) k
theorem lg (l:List UInt8):∀k,mE (fZ l k).1
  | 0=>rfl
  | k+1=>vk _ _ _ _ (lg l k)
theorem jm (l:List UInt8):∀k,(fZ l k).1.length≤k+1
  | 0=>by simp[fZ]
  | k+1=>by
    have h1:=vj (fZ l k).1 (fZ l k).2 (l.getD k 0) k;have h2:=jm l k;simp only[fZ];omega
def zD (c:UInt8):Bool:=[84,67,80,66,68,86,73,65,82].contains c
def uK (c:UInt8):Bool:=[84,67,80,79,83,68,66,86,73,65,82,69,76,88,35].contains c
theorem sX (h:zD c=true):uK c=true:=by
  have:=fh (fun c => !zD c||uK c) (by decide +kernel) c
  simpa [h] using this
theorem Lz (hv:uK c=true) (h1:c.toNat≠79) (h2:c.toNat≠69) (h3:c.toNat≠76) (h4:c.toNat≠88) (h5:c.toNat≠83) (h6:c.toNat≠35):zD c=true:=by
  have:=fh (fun c => !uK c||c.toNat==79||c.toNat==69||c.toNat==76||c.toNat==88||c.toNat==83||c.toNat==35||zD c) (by decide +kernel) c
  simpa [hv,h1,h2,h3,h4,h5,h6] using this
def oz:ff→Prop
  | []=>True
  | (c,_)::r=>uK c=true∧∀y∈r,zD y.1=true
theorem oz.of_mid {r:ff} (h:∀y∈r,zD y.1=true):oz r:=by
  cases r with
  | nil=>trivial
  | cons x r=>exact⟨sX _ (h x (by simp)),fun y hy=>h y (by simp[hy])⟩
theorem oz.push {c:UInt8} {r:ff} (hd:uK d=true) (hc:zD c=true) (h:∀y∈r,zD y.1=true):oz ((d,q)::(c,p)::r):=
  ⟨hd,fun y hy=>by
    rcases bP.1 hy with rfl|hy
    ·exact hc
    ·exact h y hy⟩
theorem oz.turn {r:ff} (hd:uK d=true) (h:∀y∈r,zD y.1=true):oz ((d,q)::r):=⟨hd,h⟩
theorem MV (h:c.toNat=66):zD c=true:=by
  have:=fh (fun c => !(c.toNat==66)||zD c) (by decide +kernel) c
  simpa [h] using this
theorem qy (p at_:Int) (hv:uK c=true) (h79:c.toNat≠79) (h69:c.toNat≠69) (h76:c.toNat≠76) (h:∀y∈r,zD y.1=true):oz (dK ((c,p)::r) f c b at_).1:=by
  unfold dK
  repeat' (refine ei (fun x:ff×Bool=>oz x.1) (fun _=>?_) (fun _=>?_))
  all_goals first
    | exact rProgram_v _ _ _ _ _ _ hv (mid3 c (by omega)) h
    | exact⟨hv,h⟩
    | exact oz.of_mid h
    | exact oz.turn (by decide) h
    | exact oz.push (by decide) (MV c (by omega)) h
    | exact oz.push (by decide) (Lz c hv h79 h69 h76 (by omega) (by omega) (by omega)) h
theorem F5 (d:UInt8) (h:zD d=true):d.toNat≠79∧d.toNat≠69∧d.toNat≠76:=by
  have:=fh (fun c => !zD c||(c.toNat != 79&&c.toNat != 69&&c.toNat != 76)) (by decide +kernel) d
  simpa [h,and_assoc] using this
theorem I4 (st:ff) (f:Bool) (b:UInt8) (at_:Int) (h:oz st):oz (ez st f b at_).1:=by
  match st,h with
  | [],_=>trivial
  | (c,p)::r,⟨hv,h⟩=>
    unfold ez;refine ei (fun x:ff×Bool=>oz x.1) (fun hc=>?_) (fun _=>?_)
    ·refine ei (fun x:ff×Bool=>oz x.1) (fun _=>oz.turn (by decide) h) (fun _=>?_);refine ei (fun x:ff×Bool=>oz x.1) (fun _=>?_) (fun _=>?_)
     ·cases r with
      | nil=>exact oz.turn (by decide) h
      | cons x r=>obtain⟨d,q⟩:=x;exact ei (fun x:ff×Bool=>oz x.1) (fun _=>oz.turn (by decide) h) (fun _=>oz.turn (by decide) h)
     ·refine ei (fun x:ff×Bool=>oz x.1) (fun _=>oz.of_mid h) (fun _=>?_)
      cases r with
      | nil=>trivial
      | cons x r=>
        obtain⟨d,q⟩:=x;have hd:=h (d,q) (by simp);obtain⟨h1,h2,h3⟩:=F5 d hd;exact qy _ _ _ _ _ _ (sX _ hd) h1 h2 h3 (fun y hy=>h y (by simp[hy]))
    ·refine ei (fun x:ff×Bool=>oz x.1) (fun _=>?_) (fun _=>?_)
     ·exact ei (fun x:ff×Bool=>oz x.1) (fun _=>oz.turn (by decide) h) (fun _=>qy _ _ _ _ _ _ (by decide) (by decide) (by decide) (by decide) h)
     ·refine ei (fun x:ff×Bool=>oz x.1) (fun _=>?_) (fun _=>qy _ _ _ _ _ _ hv (by omega) (by omega) (by omega) h);exact ei (fun x:ff×Bool=>oz x.1) (fun _=>oz.of_mid h) (fun _=>qy _ _ _ _ _ _ (by decide) (by decide) (by decide) (by decide) h)
theorem sr (l:List UInt8):∀k,oz (fZ l k).1
  | 0=>⟨by decide,by simp⟩
  | k+1=>I4 _ _ _ _ (sr l k)
def nD (st:ff) (c:UInt8):Bool:=
  gY c&&(match st with
    | [_]=>true
    | [(d,_),_]=>decide (d.toNat=76)&&decide (c.toNat≠40)
    | _=>false)
def nC (stop:Nat→Bool):Nat→Nat→Nat
  | 0,k=>k
  | m+1,k=>if stop k=true then k else nC stop m (k+1)
theorem rW {k:Nat} (h:stop k=true):nC stop m k=k:=by
  cases m with
  | zero=>rfl
  | succ m=>simp[nC,h]
theorem tg {k:Nat} (h:stop k=false) (hm:0<m):nC stop m k=nC stop (m-1) (k+1):=by
  cases m with
  | zero=>omega
  | succ m=>simp[nC,h]
abbrev Lt (st:ff):List UInt8:=st.map (·.1)
def LR (x y:ff×Bool):Prop:=Lt x.1=Lt y.1∧x.2=y.2
theorem jP {α:Type} (R:α→α→Prop) {c:Prop} [Decidable c] {a b a' b':α} (h1:c→R a a') (h2:¬c→R b b'):R (if c then a else b) (if c then a' else b'):=by
  by_cases h:c
  ·rw[aC h,aC h];exact h1 h
  ·rw[aB h,aB h];exact h2 h
theorem Ko (h:Lt st=Lt st'):Lt st.tail=Lt st'.tail:=by
  simp only[Lt,List.map_tail];exact congrArg List.tail h
theorem qB (h:Lt st=Lt st') (f:Bool) (c b:UInt8) (p q:Int):LR (dK st f c b p) (dK st' f c b q):=by
  unfold dK
  repeat' (refine jP LR (fun _=>?_) (fun _=>?_))
  all_goals first
    | exact rProgram_l h _ _ _ _ _
    | exact⟨h,rfl⟩
    | exact⟨Ko h,rfl⟩
    | exact⟨congrArg (List.cons _) h,rfl⟩
    | (refine⟨?_,rfl⟩
       cases st<;>cases st'<;>simp_all [Lt])
theorem I6 (h:Lt st=Lt st') (f:Bool) (b:UInt8) (p q:Int):LR (ez st f b p) (ez st' f b q):=by
  match st,st',h with
  | [],[],_=>exact⟨rfl,rfl⟩
  | [],(_::_),h=>simp[Lt] at h
  | (_::_),[],h=>simp[Lt] at h
  | (c,x)::r,(c',x')::r',h=>
    simp only[Lt,bX,List.cons.injEq] at h;obtain⟨rfl,hr⟩:=h;have hc:Lt ((c,x)::r)=Lt ((c,x')::r'):=by simp[Lt,hr]
    unfold ez;refine jP LR (fun _=>?_) (fun _=>?_)
    ·refine jP LR (fun _=>⟨by simp[Lt,hr],rfl⟩) (fun _=>?_);refine jP LR (fun _=>?_) (fun _=>?_)
     ·match r,r',hr with
      | [],[],_=>exact⟨rfl,rfl⟩
      | [],(_::_),hr=>simp at hr
      | (_::_),[],hr=>simp at hr
      | (d,y)::r2,(d',y')::r2',hr=>
        simp only[bX,List.cons.injEq] at hr;obtain⟨rfl,hr⟩:=hr;exact jP LR (fun _=>⟨by simp[Lt,hr],rfl⟩) (fun _=>⟨by simp[Lt,hr],rfl⟩)
     ·refine jP LR (fun _=>⟨hr,rfl⟩) (fun _=>?_)
      match r,r',hr with
      | [],[],_=>exact⟨rfl,rfl⟩
      | [],(_::_),hr=>simp at hr
      | (_::_),[],hr=>simp at hr
      | (d,y)::r2,(d',y')::r2',hr=>
        have hr':=hr;simp only[bX,List.cons.injEq] at hr;obtain⟨rfl,_⟩:=hr;exact qB hr' _ _ _ _ _
    ·refine jP LR (fun _=>?_) (fun _=>?_)
     ·exact jP LR (fun _=>⟨by simp[Lt,hr],rfl⟩) (fun _=>qB (by simp[Lt,hr]) _ _ _ _ _)
     ·refine jP LR (fun _=>?_) (fun _=>qB hc _ _ _ _ _);exact jP LR (fun _=>⟨hr,rfl⟩) (fun _=>qB (by simp[Lt,hr]) _ _ _ _ _)
def iK (l:List UInt8) (a:Nat):Nat→ff×Bool
  | 0=>([(84,0)],true)
  | k+1=>ez (iK l a k).1 (iK l a k).2 (l.getD (a+k) 0) ((a+k:Nat):Int)
theorem BR (l:List UInt8) (a:Nat):∀k,LR (iK l a k) (fZ (l.drop a) k)
  | 0=>⟨rfl,rfl⟩
  | k+1=>by
    have ih:=BR l a k;have e:(l.drop a).getD k 0=l.getD (a+k) 0:=by
      rw[aE,aE,bU]
    simp only[iK,fZ];rw[e,←ih.2];exact I6 ih.1 _ _ _ _
theorem vp (l:List UInt8) (a:Nat):∀k,mE (iK l a k).1
  | 0=>rfl
  | k+1=>vk _ _ _ _ (vp l a k)
theorem vm (l:List UInt8) (a:Nat):∀k,(iK l a k).1.length≤k+1
  | 0=>by simp[iK]
  | k+1=>by
    have h1:=vj (iK l a k).1 (iK l a k).2 (l.getD (a+k) 0) ((a+k:Nat):Int);have h2:=vm l a k;simp only[iK];omega
theorem LZ (h:Lt st=Lt st') (c:UInt8):nD st c=nD st' c:=by
  unfold nD;congr 1
  match st,st',h with
  | [],[],_=>rfl
  | [_],[_],_=>rfl
  | [(d,_),_],[(d',_),_],h=>
    simp[Lt] at h;simp[h.1]
  | (_::_::_::_),(_::_::_::_),_=>rfl
  | [],(_::_),h=>simp[Lt] at h
  | (_::_),[],h=>simp[Lt] at h
  | [_],(_::_::_),h=>simp[Lt] at h
  | (_::_::_),[_],h=>simp[Lt] at h
  | [_,_],(_::_::_::_),h=>simp[Lt] at h
  | (_::_::_::_),[_,_],h=>simp[Lt] at h
abbrev eR (st:ff):List Int:=st.map (·.2)
def o9 (ps:List Int) (a:Int) (x:ff×Bool):Prop:=∃m,eR x.1=ps.drop m∨eR x.1=a::ps.drop m
theorem o9.same {f:Bool} {a:Int} (h:eR st'=eR st):o9 (eR st) a (st',f):=⟨0,.inl h⟩
theorem o9.push {c:UInt8} {f:Bool} {a:Int}:o9 (eR st) a ((c,a)::st,f):=⟨0,.inr rfl⟩
theorem o9.tail {f:Bool} {a:Int}:o9 (eR st) a (st.tail,f):=⟨1,.inl (by simp[eR,List.drop_one,List.map_tail])⟩
theorem o9.deep {a:Int} (h:o9 (eR st) a x):o9 (eR (y::st)) a x:=by
  obtain⟨m,h⟩:=h;exact⟨m+1,by simpa [eR] using h⟩
theorem qz (st:ff) (f:Bool) (c b:UInt8) (a:Int):o9 (eR st) a (dK st f c b a):=by
  unfold dK
  repeat' (refine ei (o9 (eR st) a) (fun _=>?_) (fun _=>?_))
  all_goals first
    | exact rProgram_q _ _ _ _ _
    | exact o9.push
    | exact o9.tail
    | exact o9.same rfl
    | (refine o9.same ?_;cases st<;>rfl)
theorem I5 (st:ff) (f:Bool) (b:UInt8) (a:Int):o9 (eR st) a (ez st f b a):=by
  match st with
  | []=>exact o9.same rfl
  | (c,p)::r=>
    unfold ez;refine ei (o9 (eR ((c,p)::r)) a) (fun _=>?_) (fun _=>?_)
    ·refine ei (o9 (eR ((c,p)::r)) a) (fun _=>o9.same rfl) (fun _=>?_);refine ei (o9 (eR ((c,p)::r)) a) (fun _=>?_) (fun _=>?_)
     ·cases r with
      | nil=>exact o9.same rfl
      | cons y r=>exact ei (o9 (eR ((c,p)::y::r)) a) (fun _=>o9.same rfl) (fun _=>o9.same rfl)
     ·refine ei (o9 (eR ((c,p)::r)) a) (fun _=>(o9.same rfl).deep) (fun _=>?_)
      cases r with
      | nil=>exact(o9.same rfl).deep
      | cons y r=>exact(qz _ _ _ _ _).deep
    ·refine ei (o9 (eR ((c,p)::r)) a) (fun _=>?_) (fun _=>?_)
     ·exact ei (o9 (eR ((c,p)::r)) a) (fun _=>o9.same rfl) (fun _=>qz ((67,p)::r) _ _ _ _)
     ·refine ei (o9 (eR ((c,p)::r)) a) (fun _=>?_) (fun _=>qz _ _ _ _ _);exact ei (o9 (eR ((c,p)::r)) a) (fun _=>(o9.same rfl).deep) (fun _=>qz ((65,p)::r) _ _ _ _)
def XT (l:List UInt8) (k:Nat):ff:=(fZ l k).1.dropLast
def FT (l:List UInt8) (k:Nat):ff:=(XT l k).reverse
theorem DK (h:mE st):∃p,st=st.dropLast++[(84,p)]:=by
  induction st with
  | nil=>exact h.elim
  | cons x r ih=>
    cases r with
    | nil=>obtain⟨c,p⟩:=x;obtain rfl:c=84:=h;exact⟨p,rfl⟩
    | cons y r=>
      obtain⟨p,hp⟩:=ih h.2;exact⟨p,by rw[List.dropLast_cons_cons,bJ,←hp]⟩
def sF (x:ff×Bool):Prop:=∀y∈x.1,y.1=84→y.2=0
theorem sF.cons {c:UInt8} {q:Int} {st:ff} {f g:Bool} (h:sF (st,f)) (hc:c≠84):sF ((c,q)::st,g):=by
  intro y hy e;rcases bP.1 hy with rfl|hy
  ·exact absurd e hc
  ·exact h y hy e
theorem sF.tail {f:Bool} (h:sF (st,f)):sF (st.tail,g):=fun y hy=>h y (List.mem_of_mem_tail hy)
theorem sF.any {f:Bool} (h:sF (st,f)):sF (st,g):=h
theorem qw (st:ff) (f:Bool) (c b:UInt8) (a:Int) (h:sF (st,f)):sF (dK st f c b a):=by
  unfold dK
  repeat' (refine ei sF (fun _=>?_) (fun _=>?_))
  all_goals first
    | exact rProgram_z st f c b a h
    | exact h.any
    | exact h.cons (by decide)
    | exact h.tail
    | (cases st with
       | nil=>exact h.any
       | cons y r=>exact sF.cons (f:=f) (fun z hz=>h z (cw _ hz)) (by decide))
theorem I3 (st:ff) (f:Bool) (b:UInt8) (a:Int) (h:sF (st,f)):sF (ez st f b a):=by
  match st,h with
  | [],h=>exact h
  | (c,p)::r,h=>
    have hr:sF (r,f):=fun z hz=>h z (cw _ hz)
    unfold ez;refine ei sF (fun _=>?_) (fun _=>?_)
    ·refine ei sF (fun _=>hr.cons (by decide)) (fun _=>?_);refine ei sF (fun _=>?_) (fun _=>?_)
     ·cases r with
      | nil=>exact hr.cons (by decide)
      | cons y r=>exact ei sF (fun _=>hr.cons (by decide)) (fun _=>hr.cons (by decide))
     ·refine ei sF (fun _=>hr) (fun _=>?_)
      cases r with
      | nil=>exact hr
      | cons y r=>exact qw _ _ _ _ _ hr
    ·refine ei sF (fun _=>?_) (fun _=>?_)
     ·exact ei sF (fun _=>hr.cons (by decide)) (fun _=>qw _ _ _ _ _ (hr.cons (by decide)))
     ·refine ei sF (fun _=>?_) (fun _=>qw _ _ _ _ _ h);exact ei sF (fun _=>hr) (fun _=>qw _ _ _ _ _ (hr.cons (by decide)))
theorem Kt (l:List UInt8):∀k:Nat,sF (fZ l k)
  | 0=>by intro y hy _;simp[fZ] at hy;rw[hy]
  | k+1=>I3 _ _ _ _ (Kt l k)
theorem jF:(fZ l k).1=XT l k++[(84,0)]:=by
  obtain⟨p,hp⟩:=DK (lg l k);have h0:p=0:=Kt l k (84,p) (by rw[hp];simp) rfl;subst h0;exact hp
theorem Ii:(fZ l k).1.length=(XT l k).length+1:=by rw[jF];simp
theorem sP:(fZ l k).1.reverse=(84,0)::FT l k:=by rw[jF];simp[FT]
theorem CC:∃m,eR (XT l (k+1))=(eR (XT l k)).drop m∨eR (XT l (k+1))=(k:Int)::(eR (XT l k)).drop m:=by
  obtain⟨m,h⟩:=I5 (fZ l k).1 (fZ l k).2 (l.getD k 0) k;have h':eR (fZ l (k+1)).1=(eR (fZ l k).1).drop m∨eR (fZ l (k+1)).1=(k:Int)::(eR (fZ l k).1).drop m:=h;rw[jF l (k+1),jF l k] at h';simp only[eR,cm,bX,List.map_nil] at h' ⊢;generalize (XT l (k+1)).map (·.2)=A at h' ⊢;generalize (XT l k).map (·.2)=B at h' ⊢;by_cases hm:m≤B.length
  ·rw[List.drop_append_of_le_length hm] at h';refine⟨m,h'.imp (fun e=>(List.append_left_inj _).1 e) (fun e=>?_)⟩;rw[←bJ] at e
   exact(List.append_left_inj _).1 e
  ·rw[List.drop_eq_nil_of_le (by simp;omega)] at h';refine⟨B.length,.inl ?_⟩;rcases h' with e|e
   ·simp at e
   ·cases A with
    | nil=>simp
    | cons x A=>have:=congrArg List.length e;simp at this
theorem xe (l:List UInt8):∀k:Nat,(eR (XT l k)).Pairwise (· > ·)∧∀p∈eR (XT l k),0≤p∧p<(k:Int)
  | 0=>⟨List.Pairwise.nil,by intro p hp;simp[XT,fZ,eR] at hp⟩
  | k+1=>by
    obtain⟨h1,h2⟩:=xe l k;obtain⟨m,h|h⟩:=CC l k
    ·rw[h];exact⟨h1.sublist (List.drop_sublist _ _),fun p hp=>by have:=h2 p (List.mem_of_mem_drop hp);omega⟩
    ·rw[h];refine⟨List.Pairwise.cons (fun p hp=>by have:=h2 p (List.mem_of_mem_drop hp);show (k:Int)>p;omega) (h1.sublist (List.drop_sublist _ _)),fun p hp=>?_⟩;rcases bP.1 hp with rfl|hp
     ·omega
     ·have:=h2 p (List.mem_of_mem_drop hp);omega
theorem pa:(eR (FT l k)).Pairwise (· < ·)∧∀p∈eR (FT l k),0≤p∧p<(k:Int):=by
  obtain⟨h1,h2⟩:=xe l k;have e:eR (FT l k)=(eR (XT l k)).reverse:=by simp[eR,FT]
  rw[e];exact⟨List.pairwise_reverse.2 h1,fun p hp=>h2 p (List.mem_reverse.1 hp)⟩
theorem Kq:∃j,j≤(FT l k).length∧(eR (FT l (k+1))=(eR (FT l k)).take j∨eR (FT l (k+1))=(eR (FT l k)).take j++[(k:Int)]):=by
  obtain⟨m,h⟩:=CC l k;have e:∀k,eR (FT l k)=(eR (XT l k)).reverse:=by intro k;simp[eR,FT]
  refine⟨(FT l k).length-m,by omega,?_⟩;rw[e,e];have hl:(FT l k).length=(eR (XT l k)).length:=by simp[FT,eR]
  rw[hl,←List.reverse_drop];rcases h with h|h
  ·left;rw[h]
  ·right;rw[h];simp
structure eV where
  mode:Int
  fr:Int
  to:Int
  up:Int
  op:Bool
def dP:eV:=⟨0,0,0,0,false⟩
def kw (m:Int):Int:=if m=3 then 1 else if m=11 then 9 else m
def tj (c:UInt8):Int:=kw (eG c)
abbrev ij (l:List eV):List Int:=l.map (·.fr)
def iu (l:List eV) (p:Int):Nat:=(ij l).idxOf p
def q9 (F:ff) (p:Int):Option UInt8:=(F.find? (fun x=>x.2==p)).map (·.1)
def sH (F:ff) (k1:Int) (q:eV):eV:=
  if q.op=true then (match q9 F q.fr with
    | some c=>{q with mode:=tj c}
    | none=>{q with to:=k1,op:=false})
  else q
def DW (F:ff) (l:List eV):Int:=match F.dropLast.getLast? with
  | none => -1
  | some y=>(iu l y.2:Int)
def nm (F:ff) (k:Int) (l:List eV):List eV:=match F.getLast? with
  | none=>[]
  | some y=>if y.2=k then [⟨tj y.1,k,0,DW F l,true⟩] else []
def eK (l:List UInt8):Nat→List eV
  | 0=>[]
  | k+1=>(eK l k).map (sH (FT l (k+1)) ((k:Int)+1))++nm (FT l (k+1)) k (eK l k)
theorem zN (F:ff) (k1:Int) (q:eV):(sH F k1 q).fr=q.fr:=by
  unfold sH;split
  ·split<;>rfl
  ·rfl
theorem Cp (F:ff) (k1:Int) (l:List eV):ij (l.map (sH F k1))=ij l:=by
  simp only[ij,List.map_map];exact cH fun q _=>zN F k1 q
theorem uy (h:p∈eR F):∃c,q9 F p=some c∧(c,p)∈F:=by
  obtain⟨y,hy,he⟩:=cE.1 h
  cases hf:F.find? (fun x=>x.2==p) with
  | none=>have:=dG.1 hf y hy;simp[he] at this
  | some z=>
    have h1:=List.find?_some hf;have h2:=List.mem_of_find?_eq_some hf;simp at h1;obtain⟨c,q⟩:=z;simp at h1;subst h1;exact⟨c,by unfold q9;rw[hf];rfl,h2⟩
theorem pR (h:p∉eR F):q9 F p=none:=by
  unfold q9;rw[dG.2]
  ·rfl
  ·intro y hy;simp only[aN];intro e;exact h (cE.2 ⟨y,hy,e⟩)
theorem oO {k:Int} {l:List eV} {c:UInt8} (h:F=G++[(c,k)]):nm F k l=[⟨tj c,k,0,DW F l,true⟩]:=by
  subst h;simp[nm]
theorem oP {k:Int} {l:List eV} (h:∀p∈eR F,p≠k):nm F k l=[]:=by
  unfold nm
  cases hg:F.getLast? with
  | none=>rfl
  | some y=>
    have:y∈F:=List.mem_of_getLast? hg
    simp only;rw[aB (h y.2 (cE.2 ⟨y,this,rfl⟩))]
theorem mX:∃(j:Nat) (A B:ff),FT l (k+1)=A++B∧j≤(FT l k).length∧eR A=(eR (FT l k)).take j∧(B=[]∨∃c,B=[(c,(k:Int))]):=by
  obtain⟨j,hj,h⟩:=Kq l k;refine⟨j,(FT l (k+1)).take j,(FT l (k+1)).drop j,(dy _ _).symm,hj,?_,?_⟩
  ·rw[eR,List.map_take];rcases h with h|h
   ·rw[show (FT l (k+1)).map (·.2)=_ from h,List.take_take,Nat.min_self]
   ·rw[show (FT l (k+1)).map (·.2)=_ from h,List.take_append_of_le_length (by simp[eR];omega),List.take_take,Nat.min_self]
  ·have e:eR ((FT l (k+1)).drop j)=(eR (FT l (k+1))).drop j:=by simp[eR,List.map_drop]
   rcases h with h|h
   ·left
    rw[h,List.drop_take] at e;simpa [eR] using e
   ·right
    rw[h,List.drop_append,List.drop_take] at e;simp only[bE,eR,cD,cL hj,Nat.sub_self,List.take_zero,cj,dt] at e
    match hd:(FT l (k+1)).drop j,e with
    | [(c,p)],e=>simp at e;exact⟨c,by rw[e]⟩
structure CI (l:List UInt8) (k:Nat):Prop where
  rise:(ij (eK l k)).Pairwise (· < ·)
  bnd:∀p∈ij (eK l k),0≤p∧p<(k:Int)
  opn:∀q∈eK l k,(q.op=true↔q.fr∈eR (FT l k))
  sub:∀p∈eR (FT l k),p∈ij (eK l k)
theorem yU (F:ff) (k:Int) (l:List eV):ij (nm F k l)=[]∨ij (nm F k l)=[k]:=by
  unfold nm;split
  ·exact .inl rfl
  ·split
   ·exact .inr rfl
   ·exact .inl rfl
theorem jK:ij (eK l (k+1))=ij (eK l k)++ij (nm (FT l (k+1)) k (eK l k)):=by
  simp only[eK,ij,cm];congr 1;exact Cp _ _ _
theorem KV {k1:Int} {q:eV}:(sH F k1 q).op=true↔q.op=true∧q.fr∈eR F:=by
  unfold sH;by_cases ho:q.op=true
  ·rw[aC ho];by_cases hm:q.fr∈eR F
   ·obtain⟨c,hc,_⟩:=uy hm;rw[hc];simp[ho,hm]
   ·rw[pR hm];simp[hm]
  ·rw[aB ho];simp[ho]
theorem mV (l:List UInt8):∀k,CI l k
  | 0=>⟨List.Pairwise.nil,by intro p hp;simp[eK,ij] at hp,by intro q hq;simp[eK] at hq,by intro p hp;simp[FT,XT,fZ,eR] at hp⟩
  | k+1=>by
    have ih:=mV l k;obtain⟨j,A,B,hF,hj,hA,hB⟩:=mX l k;have hr:=(pa l k);have hkP:(k:Int)∉eR (FT l k):=fun h=>by have:=hr.2 _ h;omega
    have hkC:(k:Int)∉ij (eK l k):=fun h=>by have:=ih.bnd _ h;omega
    have hAsub:∀p∈eR A,p∈eR (FT l k):=fun p hp=>by rw[hA] at hp;exact cJ hp
    refine⟨?_,?_,?_,?_⟩
    ·rw[jK];rcases yU (FT l (k+1)) k (eK l k) with h|h
     ·rw[h,bG];exact ih.rise
     ·rw[h,List.pairwise_append];exact⟨ih.rise,List.pairwise_singleton _ _,fun a ha b hb=>by simp at hb;subst hb;exact(ih.bnd a ha).2⟩
    ·intro p hp;rw[jK] at hp;rcases bC.1 hp with hp|hp
     ·have:=ih.bnd p hp;omega
     ·rcases yU (FT l (k+1)) k (eK l k) with h|h
      ·rw[h] at hp;cases hp
      ·rw[h] at hp;simp at hp;omega
    ·intro q hq;simp only[eK] at hq;rcases bC.1 hq with hq|hq
     ·obtain⟨q0,hq0,rfl⟩:=cE.1 hq;rw[KV,zN,ih.opn q0 hq0];constructor
      ·exact fun h=>h.2
      ·intro h;refine⟨?_,h⟩;rw[hF,eR,cm] at h;rcases bC.1 h with h|h
       ·exact hAsub _ h
       ·exfalso;rcases hB with rfl|⟨c,rfl⟩
        ·cases h
        ·simp at h;exact hkC (h▸cE.2 ⟨q0,hq0,rfl⟩)
     ·rcases hB with rfl|⟨c,rfl⟩
      ·rw[oP] at hq
       ·cases hq
       ·intro p hp e;subst e;rw[hF,bG] at hp;exact hkP (hAsub _ hp)
      ·rw[oO hF] at hq;simp at hq;subst hq;simp[hF,eR]
    ·intro p hp;rw[jK];rw[hF,eR,cm] at hp;rcases bC.1 hp with hp|hp
     ·exact List.mem_append_left _ (ih.sub p (hAsub p hp))
     ·rcases hB with rfl|⟨c,rfl⟩
      ·cases hp
      ·rw[oO hF];exact List.mem_append_right _ (by simpa [ij] using hp)
def jk (fs:List (Int×Int)) (a:Int):Nat→List eV→List Nat→List eV×List Nat
  | 0,l,h=>(l,h)
  | n+1,l,h=>
    if n+1≤fs.length∧(fs.getD n (0,0)).2=(l.getD (h.getD n 0) dP).fr then (l,h)
    else jk fs a n (l.set (h.getD n 0) {l.getD (h.getD n 0) dP with to:=a+1,op:=false}) (h.take n)
def fJ:List (Int×Int)→Nat→List eV→List Nat→List eV×List Nat
  | [],_,l,h=>(l,h)
  | f::fs,i,l,h=>
    if i<h.length then fJ fs (i+1) (l.set (h.getD i 0) {l.getD (h.getD i 0) dP with mode:=kw f.1}) h
    else fJ fs (i+1) (l++[⟨kw f.1,f.2,0,if 0<i then ((h.getD (i-1) 0:Nat):Int) else -1,true⟩]) (h++[l.length])
def Ae (fs:List (Int×Int)) (a:Int) (l:List eV) (h:List Nat):List eV×List Nat:=
  let x:=jk fs a h.length l h
  fJ fs 0 x.1 x.2
theorem Bc {l:List eV} (h:p∈ij l):iu l p<l.length:=by
  have:=dm h
  simpa [iu,ij] using this
theorem Gs {l:List eV} (h:p∈ij l):(l.getD (iu l p) dP).fr=p:=by
  have hl:=Bc h;have h1:(ij l)[iu l p]'(by simpa [ij] using hl)=p:=List.getElem_idxOf (dm h);rw[aE,ax hl];simpa [ij] using h1
theorem EL {l:List eV} (hr:(ij l).Pairwise (· < ·)) (hi:i<l.length) (hj:j<l.length) (e:l[i].fr=l[j].fr):i=j:=by
  rcases Nat.lt_trichotomy i j with h|h|h
  ·have:=dc.1 hr i j (by simpa [ij] using hi) (by simpa [ij] using hj) h
   simp[ij] at this;omega
  ·exact h
  ·have:=dc.1 hr j i (by simpa [ij] using hj) (by simpa [ij] using hi) h
   simp[ij] at this;omega
theorem BJ {l:List eV} (hr:(ij l).Pairwise (· < ·)) (hp:p∈ij l) (f:eV→eV):l.set (iu l p) (f (l.getD (iu l p) dP))=l.map fun q=>if q.fr=p then f q else q:=by
  have hl:=Bc hp;have hf:=Gs hp;apply List.ext_getElem (by simp);intro i h1 h2;have hi:i<l.length:=by simpa using h1
  rw[List.getElem_map];by_cases e:i=iu l p
  ·subst e;rw[List.getElem_set_self,aE,ax hl] at *;simp only[Option.getD_some] at hf ⊢;rw[aC hf]
  ·rw[List.getElem_set_ne (Ne.symm e)];rw[aB];intro e2;apply e;apply EL hr hi hl;rw[e2];rw[aE,ax hl] at hf;exact hf.symm
def pV (a:Int) (q:eV):eV:={q with to:=a+1,op:=false}
theorem Bg (P:eV→Prop) [DecidablePred P] (f:eV→eV) (hf:∀q,(f q).fr=q.fr) (l:List eV):ij (l.map fun q=>if P q then f q else q)=ij l:=by
  simp only[ij,List.map_map];refine cH fun q _=>?_
  simp only[Function.comp];split
  ·exact hf q
  ·rfl
theorem CY (hP:P.Nodup) (j:Nat) (hj:j≤P.length) (hfs:fs.map (·.2)=P.take j∨∃k,k∉P∧fs.map (·.2)=P.take j++[k]) :
    ∀(n:Nat) (l:List eV),j≤n→n≤P.length→(ij l).Pairwise (· < ·)→(∀p∈P,p∈ij l) →
     jk fs a n l ((P.map (iu l)).take n)=(l.map (fun q=>if q.fr∈(P.take n).drop j then pV a q else q),(P.map (iu l)).take j):=by
  have hfl:fs.length=j∨(fs.length=j+1∧∃k,k∉P∧fs.map (·.2)=P.take j++[k]):=by
    rcases hfs with h|⟨k,hk,h⟩
    ·left;have:=congrArg List.length h;simp at this;omega
    ·right;refine⟨?_,k,hk,h⟩;have:=congrArg List.length h;simp at this;omega
  have hat:∀i,i<j→(fs.getD i (0,0)).2=P.getD i 0:=by
    intro i hi;have h1:(fs.map (·.2))[i]? = P[i]? := by
      rcases hfs with h|⟨k,hk,h⟩
      ·rw[h,db,aC hi]
      ·rw[h,aX (by simp;omega),db,aC hi]
    rw[aZ] at h1;rw[aE,aE,←h1]
    cases h2:fs[i]? with
    | none=>
      exfalso;rw[List.getElem?_eq_none_iff] at h2;omega
    | some x=>rfl
  intro n
  induction n with
  | zero=>
    intro l h0 _ hr hs;obtain rfl:j=0:=by omega
    simp[jk]
  | succ n ih=>
    intro l h0 h1 hr hs;have hn:n<P.length:=by omega
    have hPn:P[n]∈ij l:=hs _ (List.getElem_mem hn);have hg:((P.map (iu l)).take (n+1)).getD n 0=iu l P[n]:=by
      rw[aE,db,aC (by omega),aZ,ax hn];rfl
    unfold jk;rw[hg,Gs hPn];by_cases hjn:j=n+1
    ·have hc:=hat n (by omega);rw[aE (l:=P),ax hn] at hc;rw[aC ⟨by rcases hfl with h|h<;>omega,hc⟩];rw[show (P.take (n+1)).drop j=[] by rw[hjn];simp];simp[hjn]
    ·have hne:¬(n+1≤fs.length∧(fs.getD n (0,0)).2=P[n]):=by
       rintro ⟨h2,h3⟩;rcases hfl with h|⟨h,k,hk,hfk⟩
       ·omega
       ·obtain rfl:n=j:=by omega
        have h4:(fs.map (·.2))[n]? = some k:=by
          rw[hfk,aY (by simp;omega)];simp[cL hj]
        rw[aZ] at h4;rw[aE] at h3
        cases h5:fs[n]? with
        | none=>rw[h5] at h4;cases h4
        | some x=>
          rw[h5] at h3 h4;simp at h3 h4;exact hk (by rw[←h4,h3];exact List.getElem_mem hn)
     rw[aB hne];have hset:=BJ hr hPn (pV a);unfold pV at hset;rw[hset];have hfr:ij (l.map fun q=>if q.fr=P[n] then ({q with to:=a+1,op:=false}:eV) else q)=ij l:=Bg (fun q=>q.fr=P[n]) (pV a) (fun _=>rfl) l;have hix:∀p,iu (l.map fun q=>if q.fr=P[n] then ({q with to:=a+1,op:=false}:eV) else q) p=iu l p:=fun p=>by unfold iu;rw[hfr]
     have hih:=ih (l.map fun q=>if q.fr=P[n] then ({q with to:=a+1,op:=false}:eV) else q) (by omega) (by omega) (by rw[hfr];exact hr) (by rw[hfr];exact hs);have hmap:P.map (iu (l.map fun q=>if q.fr=P[n] then ({q with to:=a+1,op:=false}:eV) else q))=P.map (iu l):=cH fun p _=>hix p
     rw[hmap] at hih;rw[List.take_take,cL (by omega),hih];congr 1;rw[List.map_map];refine cH fun q _=>?_
     have hsp:(P.take (n+1)).drop j=(P.take n).drop j++[P[n]]:=by
       rw[bz hn,List.drop_append_of_le_length (by simp;omega)]
     have hnd:P[n]∉(P.take n).drop j:=by
       intro hm;have hm':=List.mem_of_mem_drop hm;rw[cW] at hP;obtain⟨i,hi,e⟩:=List.mem_take_iff_getElem.1 hm'
       have:=dc.1 hP i n (by omega) hn (by omega)
       exact this e
     rw[hsp];simp only[Function.comp];by_cases e:q.fr=P[n]
     ·rw[aC e,aB (show ¬({q with to:=a+1,op:=false}:eV).fr∈(P.take n).drop j by show ¬q.fr∈_;rw[e];exact hnd),aC (show q.fr∈(P.take n).drop j++[P[n]] by simp[e])];rfl
     ·rw[aB e];by_cases e2:q.fr∈(P.take n).drop j
      ·rw[aC e2,aC (by simp[e2])]
      ·rw[aB e2,aB (by simp[e2,e])]
def xc (A:List (Int×Int)) (q:eV):eV:=match A.find? (fun x=>x.2==q.fr) with
  | some x=>{q with mode:=kw x.1}
  | none=>q
theorem tA (B:List (Int×Int)):∀(A:List (Int×Int)) (i:Nat) (l:List eV) (h:List Nat),(ij l).Pairwise (· < ·)→(∀x∈A,x.2∈ij l)→(A.map (·.2)).Nodup →
    (∀t x,A[t]? = some x→h[i+t]? = some (iu l x.2))→fJ (A++B) i l h=fJ B (i+A.length) (l.map (xc A)) h
  | [],i,l,h,_,_,_,_=>by
    have:l.map (xc [])=l:=by
      rw[show (xc [])=id from funext fun q=>rfl,List.map_id]
    rw[this];rfl
  | f::A,i,l,h,hr,hm,hn,hh=>by
    have h0:=hh 0 f rfl;rw[Nat.add_zero] at h0;have hil:i<h.length:=(az.1 h0).1;have hgi:h.getD i 0=iu l f.2:=by rw[aE,h0];rfl
    have hf:=hm f (by simp);rw[bJ];have hu:fJ (f::(A++B)) i l h=fJ (A++B) (i+1) (l.set (h.getD i 0) {l.getD (h.getD i 0) dP with mode:=kw f.1}) h:=by rw[fJ,aC hil]
    rw[hu,hgi];have hset:=BJ hr hf (fun q=>{q with mode:=kw f.1});rw[hset];have hfr:ij (l.map fun q=>if q.fr=f.2 then ({q with mode:=kw f.1}:eV) else q)=ij l:=Bg (fun q=>q.fr=f.2) (fun q=>{q with mode:=kw f.1}) (fun _=>rfl) l;rw[bX,List.nodup_cons] at hn;rw[tA B A (i+1) _ h (by rw[hfr];exact hr) (fun x hx=>by rw[hfr];exact hm x (by simp[hx])) hn.2 (fun t x hx=>by
      unfold iu;rw[hfr]
      have:=hh (t+1) x (by simpa using hx)
      rw[show i+(t+1)=i+1+t by omega] at this;exact this)]
    rw[List.map_map,aQ,show i+1+A.length=i+(A.length+1) by omega];congr 1;refine cH fun q _=>?_
    simp only[Function.comp];by_cases e:q.fr=f.2
    ·rw[aC e];have e1:A.find? (fun x=>x.2==q.fr)=none:=by
       rw[dG];intro x hx;simp only[aN];intro e2;exact hn.1 (cE.2 ⟨x,hx,by rw[e2,e]⟩)
     unfold xc;simp only[e1];rw[List.find?_cons_of_pos (by simp[e])]
    ·rw[aB e];unfold xc;rw[List.find?_cons_of_neg (by simp;exact fun h=>e h.symm)]
def kV (l:List UInt8) (k:Nat):List Nat:=(eR (FT l k)).map (iu (eK l k))
def oV (F:ff):List (Int×Int):=F.map fun x=>(eG x.1,x.2)
theorem te (F:ff):(oV F).map (·.2)=eR F:=by simp[oV,eR]
theorem uw (F:ff) (p:Int):(oV F).find? (fun x=>x.2==p)=(F.find? (fun x=>x.2==p)).map fun x=>(eG x.1,x.2):=by
  unfold oV;rw[List.find?_map];rfl
theorem CX:Ae (oV (FT l (k+1))) k (eK l k) (kV l k)=(eK l (k+1),kV l (k+1)):=by
  have ci:=mV l k;obtain⟨j,A,B,hF,hj,hA,hB⟩:=mX l k;have hr:=pa l k;have hnd:(eR (FT l k)).Nodup:=by rw[cW];exact hr.1.imp (fun h=>by omega)
  have hkP:(k:Int)∉eR (FT l k):=fun h=>by have:=hr.2 _ h;omega
  have hkC:(k:Int)∉ij (eK l k):=fun h=>by have:=ci.bnd _ h;omega
  have hjl:j≤(eR (FT l k)).length:=by simpa [eR] using hj
  have hlen:(kV l k).length=(eR (FT l k)).length:=by simp[kV]
  have hpop:=CY (oV (FT l (k+1))) k (eR (FT l k)) hnd j hjl (by
    rw[te,hF,eR,cm];rw[show A.map (·.2)=_ from hA];rcases hB with rfl|⟨c,rfl⟩
    ·left;simp
    ·right;exact⟨k,hkP,rfl⟩) (eR (FT l k)).length (eK l k) hjl (au _) ci.rise ci.sub
  rw[bF (au _),bF (by simp)] at hpop;unfold Ae;rw[hlen];show (let x:=jk _ _ _ _ ((eR (FT l k)).map (iu (eK l k)));fJ _ 0 x.1 x.2)=_;rw[hpop];simp only;have hfsA:oV (FT l (k+1))=oV A++oV B:=by rw[hF];simp[oV]
  have hAmem:∀p∈eR A,p∈eR (FT l k):=fun p hp=>by rw[hA] at hp;exact cJ hp
  have hfr1:ij ((eK l k).map fun q=>if q.fr∈(eR (FT l k)).drop j then pV k q else q)=ij (eK l k):=Bg (fun q=>q.fr∈(eR (FT l k)).drop j) (pV k) (fun _=>rfl) _;have hAl:A.length=j:=by have:=congrArg List.length hA;simp[eR] at this;simp[eR] at hjl;omega
  rw[hfsA,tA (oV B) (oV A) 0 _ _ (by rw[hfr1];exact ci.rise) (fun x hx=>by
    rw[hfr1]
    have:x.2∈eR A:=by rw[←te];exact cE.2 ⟨x,hx,rfl⟩
    exact ci.sub _ (hAmem _ this)) (by rw[te,hA];exact hnd.sublist (List.take_sublist _ _)) (fun t x hx=>by
    unfold iu;rw[hfr1,cC];have h1:(eR A)[t]? = some x.2:=by rw[←te,aZ,hx];rfl
    have ht:t<j:=by have:=(az.1 h1).1;rw[←hAl];simpa [eR] using this
    rw[hA,db,aC ht] at h1;rw[db,aC ht,aZ,h1];rfl)]
  have hlist:(((eK l k).map fun q=>if q.fr∈(eR (FT l k)).drop j then pV k q else q).map (xc (oV A)))=(eK l k).map (sH (FT l (k+1)) ((k:Int)+1)):=by
    rw[List.map_map];refine cH fun q hq=>?_
    have hqf:q.fr∈ij (eK l k):=cE.2 ⟨q,hq,rfl⟩;have hqk:q.fr≠(k:Int):=fun e=>hkC (e▸hqf)
    simp only[Function.comp];have htd:q.fr∈eR (FT l k)↔q.fr∈(eR (FT l k)).take j∨q.fr∈(eR (FT l k)).drop j:=by
      rw[←bC,dy]
    have hFmem:q.fr∈eR (FT l (k+1))↔q.fr∈eR A:=by
      rw[hF,eR,cm,bC];constructor
      ·rintro (h|h)
       ·exact h
       ·rcases hB with rfl|⟨c,rfl⟩
        ·cases h
        ·simp at h;exact absurd h hqk
      ·exact .inl
    have hopn:=ci.opn q hq;by_cases hd:q.fr∈(eR (FT l k)).drop j
    ·have hnt:q.fr∉eR A:=by
       rw[hA];intro ht;rw[←dy j (eR (FT l k))] at hnd
       exact(List.nodup_append.1 hnd).2.2 _ ht _ hd rfl
     rw[aC hd];have ho:q.op=true:=hopn.2 (htd.2 (.inr hd));have e1:(oV A).find? (fun x=>x.2==(pV (k:Int) q).fr)=none:=by
       rw[uw,Option.map_eq_none_iff,dG];intro y hy;simp only[aN];intro e;exact hnt (cE.2 ⟨y,hy,e⟩)
     unfold xc sH;rw[aC ho,pR (fun h=>hnt (hFmem.1 h))];simp only[e1];rfl
    ·rw[aB hd];by_cases ht:q.fr∈eR A
     ·have ho:q.op=true:=hopn.2 (hAmem _ ht);obtain⟨y,hy,hye⟩:=cE.1 ht;have hsome:(A.find? (fun x=>x.2==q.fr)).isSome=true:=by
        rw[List.find?_isSome];exact⟨y,hy,by simp[hye]⟩
      obtain⟨z,hz⟩:=Option.isSome_iff_exists.1 hsome;have e1:(oV A).find? (fun x=>x.2==q.fr)=some (eG z.1,z.2):=by rw[uw,hz];rfl
      have e2:q9 (FT l (k+1)) q.fr=some z.1:=by unfold q9;rw[hF,List.find?_append,hz];rfl
      unfold xc sH;rw[aC ho];simp only[e1,e2];rfl
     ·have hno:¬q.op=true:=fun h=>by
        rcases htd.1 (hopn.1 h) with h1|h1
        ·rw[←hA] at h1;exact ht h1
        ·exact hd h1
      have e1:(oV A).find? (fun x=>x.2==q.fr)=none:=by
        rw[uw,Option.map_eq_none_iff,dG];intro y hy;simp only[aN];intro e;exact ht (cE.2 ⟨y,hy,e⟩)
      unfold xc sH;rw[aB hno];simp only[e1]
  rw[hlist];have hhA:((eR (FT l k)).map (iu (eK l k))).take j=(eR A).map (iu (eK l k)):=by rw[hA,List.map_take]
  rw[hhA];have hixm:∀m:List eV,ij m=ij (eK l k)→∀p,iu m p=iu (eK l k) p:=fun m hm p=>by unfold iu;rw[hm]
  have hfu:ij ((eK l k).map (sH (FT l (k+1)) ((k:Int)+1)))=ij (eK l k):=Cp _ _ _;have hfsl:(oV A).length=j:=by simp[oV,hAl]
  rw[cC,hfsl];have hold:∀p∈eR A,iu (eK l (k+1)) p=iu (eK l k) p:=by
    intro p hp;unfold iu;rw[jK,List.idxOf_append,aC (ci.sub p (hAmem p hp))]
  rcases hB with rfl|⟨c,rfl⟩
  ·have hnew:nm (FT l (k+1)) k (eK l k)=[]:=oP (by
     intro p hp e;subst e;rw[hF,bG] at hp;exact hkP (hAmem _ hp))
   show fJ [] _ _ _=_;rw[show eK l (k+1)=(eK l k).map (sH (FT l (k+1)) ((k:Int)+1))++nm (FT l (k+1)) k (eK l k) from rfl,hnew,bG];unfold fJ kV;rw[Prod.mk.injEq];refine⟨rfl,?_⟩;rw[hF,bG]
   exact(cH fun p hp=>hold p hp).symm
  ·have hnew:=oO (k:=(k:Int)) (l:=eK l k) hF;show fJ [(eG c,(k:Int))] _ _ _=_;unfold fJ;have hnl:¬j<((eR A).map (iu (eK l k))).length:=by simp[eR,hAl]
   rw[aB hnl];unfold fJ;rw[show eK l (k+1)=(eK l k).map (sH (FT l (k+1)) ((k:Int)+1))++nm (FT l (k+1)) k (eK l k) from rfl,hnew];rw[Prod.mk.injEq];constructor
   ·congr 1;simp only[List.cons.injEq,and_true];congr 1;unfold DW;rw[hF,List.dropLast_concat];rcases Nat.eq_zero_or_pos j with h0|h0
    ·have:A=[]:=bB (by omega)
     subst this;simp[h0]
    ·rw[aC h0];obtain⟨G,y,rfl⟩:∃G y,A=G++[y]:=by
       rcases List.eq_nil_or_concat A with h|⟨G,y,h⟩
       ·subst h;simp at hAl;omega
       ·exact⟨G,y,by simpa using h⟩
     simp at hAl;simp only[List.getLast?_append,List.getLast?_singleton,Option.some_or];rw[aE,aZ]
     have:(eR (G++[y]))[j-1]? = some y.2:=by
       simp only[eR,cm,bX,List.map_nil];rw[aY (by simp;omega)];simp[show j-1-G.length=0 by omega]
     rw[this];rfl
   ·have hP1:eR (FT l (k+1))=eR A++[(k:Int)]:=by rw[hF];simp[eR]
    have hC:ij (eK l (k+1))=ij (eK l k)++[(k:Int)]:=by rw[jK,hnew];rfl
    unfold kV;rw[hP1,cm,bX,List.map_nil];congr 1
    ·exact(cH fun p hp=>(hold p hp).symm)
    ·rw[cD];unfold iu;rw[hC,List.idxOf_append,aB hkC];simp[ij]
def jp (c:UInt8):Bool:=decide (fi c=5)
def gF (c:UInt8):Bool:=decide (fi c=6)
def iM (c:UInt8):Bool:=jp c||gF c
def oQ (l:List UInt8):Nat:=match l with
  | []=>0
  | c::_=>if jp c=true then (l.takeWhile iM).length else 0
def sI (c:UInt8):Bool:=[64,42,35,63,45,36,33].contains c
def yg (l:List UInt8):Nat:=if 0<oQ l then oQ l else match l with
  | []=>0
  | c::_=>if sI c=true∨gF c=true then 1 else 0
def pM (l:List UInt8) (i:Nat):Nat:=yg (l.drop i)
def lI (n:Int) (q:eV):eV:=if q.op=true then {q with to:=n} else q
def om (l:List UInt8) (q:eV):eV:=if q.mode=12 then {q with to:=q.fr+1+(pM l (q.fr+1).toNat:Int),op:=false} else q
def og (l:List UInt8) (q:eV):eV:=om l (lI l.length q)
def dQ (l:List UInt8):List eV:=(eK l l.length).map (og l)
theorem yW (n:Int) (q:eV):(lI n q).fr=q.fr:=by unfold lI;split<;>rfl
theorem JP (q:eV):(om l q).fr=q.fr:=by unfold om;split<;>rfl
theorem Cr (q:eV):(og l q).fr=q.fr:=by unfold og;rw[JP,yW]
def xi (F:ff) (p:Int):Nat:=if p∈eR F then (eR F).idxOf p+1 else 0
def iX (F:Nat→ff) (fr:Int) (n:Nat):Nat→Nat→eV→eV
  | 0,_,q=>q
  | m+1,k,q=>if xi (F k) fr=0 then {q with to:=k,op:=false} else iX F fr n m (k+1) {q with mode:=tj ((F k).getD (n-1) (0,0)).1}
def DT (n:Nat) (p:Int):List eV→Nat→Int→Int
  | [],_,u=>u
  | q::l,k,u=>DT n p l (k+1) (if 1<n∧q.fr=p then (k:Int) else u)
def FF (l:List UInt8) (f:Nat) (out:List eV):eV:=
  om l (iX (FT l) f (xi (FT l (f+1)) f) (l.length-f) (f+1) ⟨0,f,l.length,DT (xi (FT l (f+1)) f) ((eR (FT l (f+1))).getD (xi (FT l (f+1)) f-2) 0) out 0 (-1),true⟩)
def kP (l:List UInt8):Nat→List eV
  | 0=>[]
  | f+1=>kP l f++(if xi (FT l (f+1)) f=0 then [] else [FF l f (kP l f)])
def mC (l:List UInt8):Nat→Nat→eV→eV
  | 0,_,q=>q
  | m+1,k,q=>mC l m (k+1) (sH (FT l k) k q)
theorem vK (l:List UInt8):∀(m a:Nat) (q:eV),mC l (m+1) a q=sH (FT l (a+m)) ((a+m:Nat):Int) (mC l m a q)
  | 0,a,q=>rfl
  | m+1,a,q=>by
    show mC l (m+1) (a+1) _=_;rw[vK l m (a+1)];rw[show a+1+m=a+(m+1) by omega];rfl
theorem Cs (l:List UInt8):∀(m a:Nat) (q:eV),(mC l m a q).fr=q.fr
  | 0,_,_=>rfl
  | m+1,a,q=>by show (mC l m (a+1) _).fr=_;rw[Cs l m,zN]
theorem vL (l:List UInt8):∀(m a:Nat) (q:eV),q.op=false→mC l m a q=q
  | 0,_,_,_=>rfl
  | m+1,a,q,h=>by
    show mC l m (a+1) _=_
    have:sH (FT l a) a q=q:=by unfold sH;rw[aB (by rw[h];simp)]
    rw[this,vL l m (a+1) q h]
theorem oe {l:List α} {f g:α→List β} (h:∀x∈l,f x=g x):l.flatMap f=l.flatMap g:=by
  rw[List.flatMap_def,List.flatMap_def,cH h]
theorem uG (l:List UInt8):∀k,eK l k=(List.range k).flatMap fun f=>(nm (FT l (f+1)) f (eK l f)).map (mC l (k-(f+1)) (f+2))
  | 0=>rfl
  | k+1=>by
    rw[List.range_succ,List.flatMap_append];show (eK l k).map _++_=_;congr 1
    ·conv=>lhs;rw[uG l k]
     rw[List.map_flatMap];refine oe fun f hf=>?_
     have hfk:=cR.1 hf;rw[List.map_map];refine cH fun q _=>?_
     simp only[Function.comp];rw[show k+1-(f+1)=(k-(f+1))+1 by omega,vK,show f+2+(k-(f+1))=k+1 by omega];rfl
    ·simp only[List.flatMap_cons,List.flatMap_nil,bG];rw[Nat.sub_self];show _=List.map (fun q=>q) _;rw[List.map_id']
theorem rq:(eR (FT l k)).Nodup:=by rw[cW];exact(pa l k).1.imp (fun h=>by omega)
theorem rK {P:List Int} (h:P.Nodup) (hi:P[i]? = some p) (hj:P[j]? = some p):i=j:=by
  obtain⟨h1,h2⟩:=az.1 hi;obtain⟨h3,h4⟩:=az.1 hj;rw[cW] at h;rcases Nat.lt_trichotomy i j with e|e|e
  ·exact absurd (h2.trans h4.symm) (dc.1 h i j h1 h3 e)
  ·exact e
  ·exact absurd (h4.trans h2.symm) (dc.1 h j i h3 h1 e)
theorem lq (f n:Nat) (h0:(eR (FT l (f+1)))[n]? = some (f:Int)):∀k,f+1≤k→(f:Int)∈eR (FT l k)→(eR (FT l k))[n]? = some (f:Int):=by
  intro k hk
  induction k with
  | zero=>omega
  | succ k ih=>
    intro hm;by_cases e:k=f
    ·subst e;exact h0
    ·obtain⟨j,A,B,hF,hj,hA,hB⟩:=mX l k;have hmA:(f:Int)∈eR A:=by
       rw[hF,eR,cm] at hm;rcases bC.1 hm with h|h
       ·exact h
       ·rcases hB with rfl|⟨c,rfl⟩
        ·cases h
        ·simp at h;omega
     have hmt:=hmA;rw[hA] at hmt;have ih':=ih (by omega) (cJ hmt);obtain⟨i,hi,hie⟩:=List.mem_take_iff_getElem.1 hmt;have hij:i=n:=rK (rq l k) (az.2 ⟨by omega,hie⟩) ih';rw[hF,eR,cm,aX (by
       have:=congrArg List.length hA
       simp[eR] at this ⊢;simp[eR] at hi;omega)]
     rw[show A.map (·.2)=eR A from rfl,hA,db,aC (by omega)];exact ih'
theorem yY (h:(eR F).Nodup) (hi:F[i]? = some y):q9 F y.2=some y.1:=by
  have hm:y.2∈eR F:=cE.2 ⟨y,aT hi,rfl⟩;obtain⟨c,hc,hcm⟩:=uy hm;obtain⟨j,hj⟩:=dw.1 hcm;have e1:(eR F)[i]? = some y.2:=by rw[aZ,hi];rfl
  have e2:(eR F)[j]? = some y.2:=by rw[aZ,hj];rfl
  have:=rK h e1 e2
  subst this;rw[hi] at hj;injection hj with hj
  rw[hc,hj]
theorem kC:xi F p=0↔p∉eR F:=by unfold xi;split<;>simp_all
theorem zB (h:p∈eR F):(eR F)[xi F p-1]? = some p∧1≤xi F p:=by
  unfold xi;rw[aC h];refine⟨?_,by omega⟩;rw[Nat.add_sub_cancel,ax (dm h)];exact congrArg some (List.getElem_idxOf (dm h))
theorem oE (l:List UInt8) (f n:Nat) (hn:∀k,f+1≤k→(f:Int)∈eR (FT l k)→(eR (FT l k))[n-1]? = some (f:Int)):∀(m k:Nat) (q:eV),q.op=true→q.fr=f→f+1≤k →
    iX (FT l) f n m k {q with to:=l.length}=lI l.length (mC l m k q)
  | 0,k,q,ho,hf,hk=>by unfold iX mC lI;rw[aC ho]
  | m+1,k,q,ho,hf,hk=>by
    unfold iX;by_cases hm:(f:Int)∈eR (FT l k)
    ·rw[aB (fun h=>kC.1 h hm)];have h1:=hn k hk hm;rw[aZ] at h1
     cases hy:(FT l k)[n-1]? with
     | none=>rw[hy] at h1;cases h1
     | some y=>
       rw[hy] at h1;simp at h1;have h2:=yY (rq l k) hy;rw[h1] at h2;have hu:sH (FT l k) k q={q with mode:=tj y.1}:=by unfold sH;rw[aC ho,hf,h2]
       have hg:((FT l k).getD (n-1) (0,0)).1=y.1:=by rw[aE,hy];rfl
       rw[hg];show iX (FT l) f n m (k+1) {({q with mode:=tj y.1}:eV) with to:=l.length}=lI l.length (mC l m (k+1) (sH (FT l k) k q));rw[hu];exact oE l f n hn m (k+1) {q with mode:=tj y.1} ho hf (by omega)
    ·rw[aC (kC.2 hm)];have hu:sH (FT l k) k q={q with to:=k,op:=false}:=by unfold sH;rw[aC ho,hf,pR hm]
     show _=lI l.length (mC l m (k+1) (sH (FT l k) k q));rw[hu,vL _ _ _ _ rfl];rfl
theorem vW (n:Nat) (p:Int):∀(l:List eV) (k:Nat) (u:Int),(1<n→p∉ij l)→DT n p l k u=u
  | [],_,_,_=>rfl
  | q::l,k,u,h=>by
    unfold DT;rw[aB (fun hh=>h hh.1 (by simp[ij,hh.2]))];exact vW n p l (k+1) u (fun hn hm=>h hn (by simp only[ij,bX,bP];exact .inr hm))
theorem BA (n:Nat) (p:Int) (hn:1<n):∀(l:List eV) (k:Nat) (u:Int),(ij l).Nodup→p∈ij l→DT n p l k u=((k+iu l p:Nat):Int)
  | [],_,_,_,h=>by simp[ij] at h
  | q::l,k,u,hd,h=>by
    unfold DT;simp only[ij,bX,List.nodup_cons] at hd;by_cases e:q.fr=p
    ·rw[aC ⟨hn,e⟩,vW n p l (k+1) k (fun _ hm=>hd.1 (by rw[e];exact hm))];simp[iu,ij,List.idxOf_cons,e]
    ·rw[aB (fun hh=>e hh.2)];have hm:p∈ij l:=by
       simp only[ij,bX,bP] at h;rcases h with h|h
       ·exact absurd h.symm e
       ·exact h
     rw[BA n p hn l (k+1) u hd.2 hm]
     have:iu (q::l) p=iu l p+1:=by
       simp only[iu,ij,bX,List.idxOf_cons]
       have:(q.fr==p)=false:=by simpa using e
       rw[this];rfl
     rw[this];congr 1;omega
theorem pN (l:List UInt8):∀f,f≤l.length→kP l f=(List.range f).flatMap (fun f=>(nm (FT l (f+1)) f (eK l f)).map fun q=>og l (mC l (l.length-(f+1)) (f+2) q))∧ij (kP l f)=ij (eK l f)
  | 0,_=>⟨rfl,rfl⟩
  | f+1,hf=>by
    obtain⟨ih,ihf⟩:=pN l f (by omega);have ci:=mV l f;obtain⟨j,A,B,hF,hj,hA,hB⟩:=mX l f;have hkP:(f:Int)∉eR (FT l f):=fun h=>by have:=(pa l f).2 _ h;omega
    have hAmem:∀p∈eR A,p∈eR (FT l f):=fun p hp=>by rw[hA] at hp;exact cJ hp
    rcases hB with rfl|⟨c,rfl⟩
    ·have hno:(f:Int)∉eR (FT l (f+1)):=by rw[hF,bG];exact fun h=>hkP (hAmem _ h)
     have hnew:nm (FT l (f+1)) f (eK l f)=[]:=oP (fun p hp e=>hno (e▸hp));have e:kP l (f+1)=kP l f:=by show kP l f++_=_;rw[aC (kC.2 hno),bG]
     rw[e];refine⟨?_,?_⟩
     ·rw[List.range_succ,List.flatMap_append,←ih];simp[hnew]
     ·rw[jK,hnew,ihf];simp[ij]
    ·have hnew:=oO (k:=(f:Int)) (l:=eK l f) hF;have hyes:(f:Int)∈eR (FT l (f+1)):=by rw[hF];simp[eR]
     have hAl:(f:Int)∉eR A:=fun h=>hkP (hAmem _ h)
     have hn:xi (FT l (f+1)) f=A.length+1:=by
       unfold xi;rw[aC hyes,hF,eR,cm,List.idxOf_append,aB hAl];simp
     have hidx:∀k,f+1≤k→(f:Int)∈eR (FT l k)→(eR (FT l k))[xi (FT l (f+1)) f-1]? = some (f:Int):=lq l f _ (zB hyes).1;have hup:DT (xi (FT l (f+1)) f) ((eR (FT l (f+1))).getD (xi (FT l (f+1)) f-2) 0) (kP l f) 0 (-1)=DW (FT l (f+1)) (eK l f):=by
       rw[hn];unfold DW;rw[hF,List.dropLast_concat];rcases List.eq_nil_or_concat A with h|⟨G,y,h⟩
       ·subst h;rw[vW _ _ _ _ _ (fun h=>by simp at h)];rfl
       ·have h':A=G++[y]:=by simpa using h
        have hyA:y.2∈eR A:=by rw[h'];simp[eR]
        rw[h'];simp only[List.getLast?_append,List.getLast?_singleton,Option.some_or];have hp:(eR ((G++[y])++[(c,(f:Int))])).getD ((G++[y]).length+1-2) 0=y.2:=by
          rw[aE];simp only[eR,cm,bX,List.map_nil,aG,aQ,bS];rw[aX (by simp),aY (by simp)];simp
        rw[hp,BA _ _ (by simp) _ _ _ (by rw[ihf,cW];exact ci.rise.imp (fun h=>by omega)) (by rw[ihf];exact ci.sub _ (hAmem _ hyA))];rw[cC];unfold iu;rw[ihf]
     have e:kP l (f+1)=kP l f++[og l (mC l (l.length-(f+1)) (f+2) ⟨tj c,f,0,DW (FT l (f+1)) (eK l f),true⟩)]:=by
       show kP l f++_=_;rw[aB (fun h=>kC.1 h hyes)];congr 2;unfold FF og;congr 1;rw[hup,show l.length-f=(l.length-(f+1))+1 by omega];have hs:=oE l f _ hidx (l.length-(f+1)+1) (f+1) ⟨0,f,0,DW (FT l (f+1)) (eK l f),true⟩ rfl rfl (au _);rw[hs];show lI _ (mC l (l.length-(f+1)) (f+2) (sH (FT l (f+1)) ((f+1:Nat):Int) ⟨0,f,0,DW (FT l (f+1)) (eK l f),true⟩))=_;congr 2;unfold sH;rw[aC rfl];have hfa:q9 (FT l (f+1)) (f:Int)=some c:=yY (y:=(c,(f:Int))) (rq l (f+1)) (i:=A.length) (by rw[hF];simp);simp only[hfa]
     rw[e];refine⟨?_,?_⟩
     ·rw[List.range_succ,List.flatMap_append,←ih];simp[hnew]
     ·rw[jK,hnew,ij,cm,show (kP l f).map (·.fr)=_ from ihf];simp only[bX,List.map_nil,Cr,Cs]
theorem tN:kP l l.length=dQ l:=by
  unfold dQ;rw[(pN l l.length (au _)).1];conv=>rhs;rw[uG]
  rw[List.map_flatMap];refine oe fun f _=>?_
  rw[List.map_map];rfl
def zI (st:ff):Prop:=∀y∈st,y.1.toNat≠76
theorem zI.tail (h:zI st):zI st.tail:=fun y hy=>h y (List.mem_of_mem_tail hy)
theorem zI.cons {st:ff} {c:UInt8} {p:Int} (h:zI st) (hc:c.toNat≠76):zI ((c,p)::st):=by
  intro y hy;rcases bP.1 hy with rfl|hy
  ·exact hc
  ·exact h y hy
theorem zI.of_cons (h:zI (y::st)):zI st:=fun z hz=>h z (cw _ hz)
def DR (a:Int) (x:ff×Bool):Prop:=zI x.1∨∃d q r,x.1=((76:UInt8),a)::(d,q)::r∧zI ((d,q)::r)∧(d.toNat≠88∧d.toNat≠79∧d.toNat≠69)∧(d.toNat=84∨d.toNat=67∨d.toNat=80→x.2=false)
theorem An (q:Int) (r:ff) (f:Bool) (b:UInt8) (a:Int) (h:zI ((c,q)::r)) (hc:c.toNat≠88∧c.toNat≠79∧c.toNat≠69):DR a (dU ((c,q)::r) f c b a):=by
  unfold dU
  repeat' (refine ei (DR a) (fun _=>?_) (fun _=>?_))
  all_goals first
    | exact .inl h
    | exact .inl h.tail
    | exact .inr ⟨c,q,r,rfl,h,hc,fun _=>rfl⟩
    | exact .inl (h.cons (by decide))
theorem qC (q:Int) (r:ff) (f:Bool) (b:UInt8) (a:Int) (h:zI ((c,q)::r)) (h1:c.toNat≠79) (h2:c.toNat≠69):DR a (dK ((c,q)::r) f c b a):=by
  unfold dK;refine ei (DR a) (fun h3=>An c q r f b a h ⟨by omega,h1,h2⟩) (fun h3=>?_);refine ei (DR a) (fun _=>.inl h.tail) (fun h4=>?_);have hd:c.toNat≠88∧c.toNat≠79∧c.toNat≠69:=⟨h4,h1,h2⟩
  repeat' (refine ei (DR a) (fun _=>?_) (fun _=>?_))
  all_goals first
    | exact .inl h
    | exact .inl h.tail
    | exact .inr ⟨c,q,r,rfl,h,hd,fun hh=>absurd hh h3⟩
    | exact .inl (h.cons (by decide))
    | exact .inl (h.of_cons.cons (by decide))
theorem I7 (st:ff) (f:Bool) (b:UInt8) (a0 a:Int) (h:DR a0 (st,f)):DR a (ez st f b a):=by
  rcases h with h|⟨d,q,r,he,h,hd,hf⟩
  ·match st,h with
   | [],h=>exact .inl h
   | (c,p)::r,h=>
     have hc:c.toNat≠76:=h (c,p) (dh ..);unfold ez;simp only;rw[aB hc];refine ei (DR a) (fun _=>?_) (fun h1=>?_)
     ·exact ei (DR a) (fun _=>.inl (zI.cons h.of_cons (by decide))) (fun _=>qC 67 p r f b a (zI.cons h.of_cons (by decide)) (by decide) (by decide))
     ·refine ei (DR a) (fun _=>?_) (fun h2=>qC c p r f b a h h1 h2);exact ei (DR a) (fun _=>.inl h.of_cons) (fun _=>qC 65 p r f b a (zI.cons h.of_cons (by decide)) (by decide) (by decide))
  ·simp only at he;subst he;unfold ez;simp only;rw[aC (by decide)];refine ei (DR a) (fun _=>.inl (h.cons (by decide))) (fun _=>?_);refine ei (DR a) (fun _=>?_) (fun _=>?_)
   ·exact ei (DR a) (fun _=>.inl (h.cons (by decide))) (fun _=>.inl (h.cons (by decide)))
   ·exact ei (DR a) (fun _=>.inl h) (fun _=>qC d q r f b a h hd.2.1 hd.2.2)
theorem Ku (l:List UInt8):∀k:Nat,DR ((k:Int)-1) (fZ l k)
  | 0=>.inl (by intro y hy;simp[fZ] at hy;rw[hy];decide)
  | k+1=>by
    have:=I7 (fZ l k).1 (fZ l k).2 (l.getD k 0) _ k (Ku l k)
    rw[show ((k+1:Nat):Int)-1=k by omega];exact this
def gQ (l:List UInt8) (a k:Nat):Bool:=nD (fZ (l.drop a) k).1 (l.getD (a+k) 0)
def jt (l:List UInt8) (a:Nat):Nat:=nC (gQ l a) (l.length-a) 0
def mU (c:UInt8):List UInt8:=
  if c.toNat=83 then [39] else if c.toNat=68 then [34] else if c.toNat=66 then [96] else if c.toNat=86∨c.toNat=73 then [125]
  else if c.toNat=67∨c.toNat=79∨c.toNat=80∨c.toNat=82∨c.toNat=69 then [41] else if c.toNat=65 then [41,41] else if c.toNat=88∨c.toNat=35 then [10] else []
theorem zx:(mU c).length≤2:=by
  unfold mU;repeat' split
  all_goals simp
def L6 (st:ff):List UInt8:=st.flatMap fun x=>mU x.1
theorem zw (p:Int) (r:ff):L6 ((c,p)::r)=mU c++L6 r:=rfl
end Go.Proofs.YtcagfamdoaoimaaGreatDoor
