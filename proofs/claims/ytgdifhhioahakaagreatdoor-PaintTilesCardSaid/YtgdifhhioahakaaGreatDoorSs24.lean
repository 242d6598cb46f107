/- Paint: what starts' two maps hold, plain. -/
import Derived.Test.YtgdifhhioahakaaGreatDoorCv24
import Derived.Test.YtgdifhhioahakaaGreatDoorIm24
namespace Go.Proofs.YtgdifhhioahakaaGreatDoor
open Go.RowKit
set_option linter.unusedVariables false
set_option linter.unusedSimpArgs false
set_option maxRecDepth 100000
def outF (L:List Nd) (k:Nat):Int→Int:=fun x=>if 0≤x∧x<(k:Int)∧cmdW L x.toNat=true then 1 else 0
def seenF (L:List Nd) (k:Nat):Int→Int:=fun u=>if 0≤u then (seenW L u k:Int) else 0
theorem seenW_succ {L:List Nd} {k:Nat} {x:Nd} (h:L[k]? = some x) (u:Int):seenW L u (k+1)=seenW L u k+(if x.kd=7∧x.up=u then 1 else 0):=by
  unfold seenW
  rw[List.take_add_one,h,List.countP_append]
  by_cases hc:x.kd=7∧x.up=u
  ·rw[if_pos hc]
   simp[hc.1,hc.2]
  ·rw[if_neg hc]
   simp
   intro h1
   exact fun h2=>hc ⟨h1,h2⟩
theorem seenW_le (L:List Nd) (u:Int) (k:Nat):seenW L u k≤k:=by
  unfold seenW
  refine Nat.le_trans List.countP_le_length ?_
  rw[List.length_take]
  omega
theorem seenF_skip {L:List Nd} {k:Nat} {x:Nd} (h:L[k]? = some x) (hs:¬(x.kd=7∧0≤x.up)):seenF L (k+1)=seenF L k:=by
  funext u
  unfold seenF
  by_cases hu:0≤u
  ·rw[if_pos hu,if_pos hu,seenW_succ h,if_neg (fun h=>hs ⟨h.1,by omega⟩)]
   rfl
  ·rw[if_neg hu,if_neg hu]
theorem seenF_put {L:List Nd} {k:Nat} {x:Nd} (h:L[k]? = some x) (h1:x.kd=7) (h2:0≤x.up):seenF L (k+1)=setF (seenF L k) x.up (seenF L k x.up+1):=by
  funext u
  unfold setF
  by_cases hu:x.up=u
  ·subst hu
   rw[if_pos rfl]
   unfold seenF
   rw[if_pos h2,if_pos h2,seenW_succ h,if_pos ⟨h1,rfl⟩]
   omega
  ·rw[if_neg hu]
   unfold seenF
   by_cases h0:0≤u
   ·rw[if_pos h0,if_pos h0,seenW_succ h,if_neg (fun h=>hu h.2)]
    rfl
   ·rw[if_neg h0,if_neg h0]
theorem outF_no {L:List Nd} {k:Nat} (h:cmdW L k=false):outF L (k+1)=outF L k:=by
  funext x
  unfold outF
  by_cases hx:x=(k:Int)
  ·subst hx
   rw[if_neg (by rintro ⟨_,_,h3⟩;rw[Int.toNat_natCast,h] at h3;cases h3),if_neg (by rintro ⟨_,h2,_⟩;omega)]
  ·by_cases hc:0≤x∧x<(k:Int)∧cmdW L x.toNat=true
   ·rw[if_pos hc,if_pos ⟨hc.1,by omega,hc.2.2⟩]
   ·rw[if_neg hc,if_neg (fun h=>hc ⟨h.1,by omega,h.2.2⟩)]
theorem outF_put {L:List Nd} {k:Nat} (h:cmdW L k=true):outF L (k+1)=setF (outF L k) (k:Int) 1:=by
  funext x
  unfold setF outF
  by_cases hx:(k:Int)=x
  ·subst hx
   rw[if_pos rfl,if_pos ⟨by omega,by omega,by rw[Int.toNat_natCast];exact h⟩]
  ·rw[if_neg hx]
   by_cases hc:0≤x∧x<(k:Int)∧cmdW L x.toNat=true
   ·rw[if_pos hc,if_pos ⟨hc.1,by omega,hc.2.2⟩]
   ·rw[if_neg hc,if_neg (fun h=>hc ⟨h.1,by omega,h.2.2⟩)]
theorem cmdW_at {L:List Nd} {k:Nat} {x u:Nd} (h:L[k]? = some x) (h1:x.kd=7) (h2:0≤x.up) (hu:L[x.up.toNat]? = some u):cmdW L k=(u.kd==16||u.kd==5&&seenW L x.up k==0):=by
  unfold cmdW
  rw[h]
  simp only
  rw[hu,h1,decide_eq_true h2]
  rfl
theorem cmdW_skip {L:List Nd} {k:Nat} {x:Nd} (h:L[k]? = some x) (hs:¬(x.kd=7∧0≤x.up)):cmdW L k=false:=by
  unfold cmdW
  rw[h]
  simp only
  by_cases h1:x.kd=7
  ·rw[decide_eq_false (fun h2=>hs ⟨h1,h2⟩),Bool.and_false,Bool.false_and]
  ·rw[show (x.kd==7)=false from beq_false_of_ne h1,Bool.false_and,Bool.false_and]
theorem outF_zero (L:List Nd):outF L 0=fun _=>0:=by
  funext x
  unfold outF
  rw[if_neg (by rintro ⟨h1,h2,_⟩;omega)]
theorem seenF_zero (L:List Nd):seenF L 0=fun _=>0:=by
  funext u
  unfold seenF seenW
  simp
theorem below_of_grown24 {B:Nat} {a w w':World} {g:Nat} (h:Below B a w) (hg:w.grownBy w' (some g)) (hB:B≤w.heap.size) (hr:B≤g):Below B a w':=
  h.grown hg hB (fun k e=>by injection e with e;omega)
end Go.Proofs.YtgdifhhioahakaaGreatDoor
