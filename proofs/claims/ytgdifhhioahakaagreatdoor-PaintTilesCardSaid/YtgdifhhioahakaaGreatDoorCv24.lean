/- Paint: tree.Cover, paint.part, painter.whole, painter.cover. -/
import Derived.Test.YtgdifhhioahakaaGreatDoorPt24
import Derived.Test.YtgdifhhioahakaaGreatDoorFl8
import Derived.Test.YtgdifhhioahakaaGreatDoorSa9
import Derived.Test.YtgdifhhioahakaaGreatDoorTr13
namespace Go.Proofs.YtgdifhhioahakaaGreatDoor
open Go.RowKit
set_option linter.unusedVariables false
set_option linter.unusedSimpArgs false
set_option maxRecDepth 100000
theorem coverF_succ {L:List Nd} {lf k:Nat} {x:Nd} (h:L[k]? = some x):coverF L lf (k+1)=if x.fr≤lf∧lf<x.tt then (k:Int) else coverF L lf k:=by
  show (match L[k]? with|some x=>if x.fr≤lf∧lf<x.tt then (k:Int) else coverF L lf k|none=>coverF L lf k)=_
  rw[h]
theorem coverF_rng {L:List Nd} {lf:Nat} {x:Nd} (h0:L[0]? = some x) (h1:x.fr≤lf) (h2:lf<x.tt):∀k,k<L.length→0≤coverF L lf (k+1)∧coverF L lf (k+1)≤(k:Int)
  | 0,_=>by rw[coverF_succ h0,if_pos ⟨h1,h2⟩];exact⟨Int.le_refl _,Int.le_refl _⟩
  | k+1,hk=>by
    have ih:=coverF_rng h0 h1 h2 k (by omega)
    rw[coverF_succ (List.getElem?_eq_getElem hk)]
    split<;>omega
set_option maxHeartbeats 1000000 in
theorem cover_m (L:List Nd) (A:Option Addr) (c n lf:Nat) (z:Int) (w:World) (hL:L.length≤100000) (hn:n=L.length) (hz:z=(lf:Int)) (hr:Rd w w.heap.size 4 (.slice A n c) n (ndcs L)) :
    Calls Tryz.prog 53 #[.slice A n c,.int .i64 z] w fun e w'=>e=.returned (.int .i64 (coverF L lf L.length))∧w=w':=by
  subst hn
  have H:=Lib.hid (And.intro hr hz)
  clear hr hz
  obtain⟨X,hX⟩:∃X,X=coverF L lf L.length:=⟨_,rfl⟩
  rw[←hX]
  have HX:=Lib.hid hX
  clear hX
  go_enter Tryz.func53,Tryz.ntmps53
  go_wp2_with fail
  go_loop [5] (fun s=>∃k:Nat,k≤L.length∧s=.int .i64 ((k:Int)-1)∧X=coverF L lf k) (fun s=>(intOf s+1).toNat)
  case atStart=>exact⟨L.length,Nat.le_refl _,rfl,HX.out⟩
  case round=>
    obtain⟨k,hk,rfl,hxk⟩:=hrel
    cases k with
    | zero=>
      have HS:=Lib.hid hxk
      clear hxk
      go_wp2_with fail
      go_ret
      exact⟨by rw[HS.out];rfl,rfl⟩
    | succ k=>
      have u1:(k:Int)<(L.length:Int):=by omega
      have u2:(0:Int)≤(k:Int):=by omega
      have u3:((k+1:Nat):Int)-1=(k:Int):=by omega
      obtain⟨q,hq⟩:∃q,L[k]? = some q:=⟨_,List.getElem?_eq_getElem (by omega)⟩
      obtain⟨g,o,rfl,hg,hc⟩:=rd_sat ndc_len H.out.1 hq rfl
      have y1:w.cell? ⟨g,o+k*4+1,none⟩=some (.int .i64 (q.fr:Int)):=hc 1 _ rfl
      have y2:w.cell? ⟨g,o+k*4+2,none⟩=some (.int .i64 (q.tt:Int)):=hc 2 _ rfl
      rw[coverF_succ hq] at hxk
      rw[u3]
      clear u3 hc
      have HS:=Lib.hid hxk
      clear hxk hq
      by_cases h1:q.fr≤lf
      ·have t1:decide ((q.fr:Int)≤z)=true:=by have:=H.out.2;simp;omega
       by_cases h2:lf<q.tt
       ·have t2:decide (z<(q.tt:Int))=true:=by have:=H.out.2;simp;omega
        go_wp2_with fail
        go_ret
        exact⟨ret_int (by rw[HS.out,if_pos ⟨h1,h2⟩]),rfl⟩
       ·have t2:decide (z<(q.tt:Int))=false:=by have:=H.out.2;simp;omega
        go_wp2_with fail
        exact⟨⟨k,by omega,rfl,by rw[HS.out,if_neg (fun h=>h2 h.2)]⟩,by simp[intOf]⟩
      ·have t1:decide ((q.fr:Int)≤z)=false:=by have:=H.out.2;simp;omega
       go_wp2_with fail
       exact⟨⟨k,by omega,rfl,by rw[HS.out,if_neg (fun h=>h1 h.1)]⟩,by simp[intOf]⟩
set_option maxHeartbeats 1000000 in
theorem part24_m (q:Prt) (w:World) (h0:0≤q.fr) (h1:q.fr≤100000) (h2:0≤toP q) (h3:toP q≤100000) :
    Calls Tryz.prog 57 #[aggQ q] w fun e w'=>e=.returned (.int .i64 (partC q:Int))∧Below w.heap.size w w':=by
  unfold aggQ partC
  obtain⟨t,ht⟩:∃t,t=toP q:=⟨_,rfl⟩
  obtain⟨f,hf⟩:∃f,f=q.fr:=⟨_,rfl⟩
  obtain⟨m,hm⟩:∃m,m=q.mode:=⟨_,rfl⟩
  rw[←ht] at h2 h3 ⊢
  rw[←hf] at h0 h1 ⊢
  rw[←hm]
  clear ht hf hm
  have hw:=IntWalk.i64_in (t-f) (by omega)
  have key:m=4∨m=5∨m=13∨m=7∨m=8∨(m=12∧t-f=1)∨(m=12∧t-f≠1)∨(m≠4∧m≠5∧m≠13∧m≠12∧m≠7∧m≠8):=by omega
  rcases key with rfl|rfl|rfl|rfl|rfl|⟨rfl,a⟩|⟨rfl,a⟩|⟨a1,a2,a3,a4,a5,a6⟩
  case' inr.inr.inr.inr.inr.inl=>have t1:(t-f==1)=true:=by simp[a]
  case' inr.inr.inr.inr.inr.inr.inl=>have t1:(t-f==1)=false:=beq_false_of_ne a
  case' inr.inr.inr.inr.inr.inr.inr=>
    have t1:(m==4)=false:=beq_false_of_ne a1
    have t2:(m==5)=false:=beq_false_of_ne a2
    have t3:(m==13)=false:=beq_false_of_ne a3
    have t4:(m==12)=false:=beq_false_of_ne a4
    have t5:(m==7)=false:=beq_false_of_ne a5
    have t6:(m==8)=false:=beq_false_of_ne a6
  all_goals (
    go_enter Tryz.func57,Tryz.ntmps57
    go_wp2_with fail
    go_ret
    exact⟨by first|rfl|(refine ret_int ?_;simp[*]),(Below.refl _ w).alloc (Nat.le_refl _) _⟩)
theorem wholeC4 {k:Nat} (h:k≠17):wholeC 4 k=3:=by unfold wholeC;simp[h]
theorem wholeC5 {k:Nat} (h:k≠17):wholeC 5 k=4:=by unfold wholeC;simp[h]
theorem wholeC6 {k:Nat} (h:k≠17) (h1:k≠7) (h2:k≠6):wholeC 6 k=5:=by unfold wholeC;simp[h,h1,h2]
set_option maxHeartbeats 1000000 in
theorem whole24_m (L:List Nd) (A:Option Addr) (c nd g m:Nat) (kk z fr to_:Int) (op:Bool) (x:Nd) (w:World) (hz:z=1∨z=2∨z=3∨z=7∨z=4∨z=5∨z=6) (hb:Bk w g 67 #[.slice A L.length c,.int .i64 kk,.map (some m)]) (hL:L.length≤100000) (hR:Rd w w.heap.size 4 (.slice A L.length c) L.length (ndcs L)) (hx:L[nd]? = some x) :
    Calls Tryz.prog 31 #[.pointer (some ⟨g,0,none⟩),.agg #[.int .i64 z,.int .i64 fr,.int .i64 to_,.bool op],.int .i64 (nd:Int)] w fun e w'=>e=.returned (.int .i64 (wholeC z.toNat x.kd:Int))∧Below w.heap.size w w':=by
  have hw1:=Below.alloc (Below.refl w.heap.size w) (Nat.le_refl _) (.cells #[.int .i64 z,.int .i64 fr,.int .i64 to_,.bool op] 69)
  have hb1:=hb.alloc (.cells #[.int .i64 z,.int .i64 fr,.int .i64 to_,.bool op] 69)
  have hR1:=hR.keep hw1 (Nat.le_refl _)
  have hlt:=(List.getElem?_eq_some_iff.1 hx).1
  obtain⟨g1,o1,rfl,_,hc⟩:=rd_sat ndc_len hR1 hx rfl
  have u1:(nd:Int)<(L.length:Int):=by omega
  have u2:(0:Int)≤(nd:Int):=by omega
  obtain⟨k,hk⟩:∃k:Int,k=(x.kd:Int):=⟨_,rfl⟩
  have y0:(w.alloc (.cells #[.int .i64 z,.int .i64 fr,.int .i64 to_,.bool op] 69)).cell? ⟨g1,o1+nd*4,none⟩=some (.int .i64 k):=by rw[hk];exact hc 0 _ rfl
  have p0:(w.alloc (.cells #[.int .i64 z,.int .i64 fr,.int .i64 to_,.bool op] 69)).cell? ⟨g,0,none⟩=some (.slice (some ⟨g1,o1,none⟩) L.length c):=by rw[hb1.cell];rfl
  obtain⟨r,hr⟩:∃r:Int,r=(wholeC z.toNat x.kd:Int):=⟨_,rfl⟩
  rw[←hr]
  clear hc hR1 hb1 hx hR hb
  have HW:=Lib.hid hw1
  clear hw1
  rcases hz with rfl|rfl|rfl|rfl|hz
  case' inl=>obtain rfl:r=1:=hr
  case' inr.inl=>obtain rfl:r=1:=hr
  case' inr.inr.inl=>obtain rfl:r=2:=hr
  case' inr.inr.inr.inl=>obtain rfl:r=12:=hr
  iterate 4 (
    go_enter Tryz.func31,Tryz.ntmps31
    go_wp2_with fail
    go_ret
    exact⟨rfl,HW.out⟩)
  have key:k=17∨(k≠17∧z=4)∨(k≠17∧z=5)∨(k=7∧z=6)∨(k=6∧z=6)∨(k≠17∧k≠7∧k≠6∧z=6):=by omega
  have hn:∀j:Nat,k=(j:Int)→x.kd=j:=fun j h=>by omega
  rcases key with rfl|⟨a,rfl⟩|⟨a,rfl⟩|⟨rfl,rfl⟩|⟨rfl,rfl⟩|⟨a,b,d,rfl⟩
  ·rw[hn 17 rfl] at hr
   rcases hz with rfl|rfl|rfl
   all_goals (
     obtain rfl:r=13:=hr
     clear hn hk
     go_enter Tryz.func31,Tryz.ntmps31
     go_wp2_with fail
     go_ret
     exact⟨rfl,HW.out⟩)
  ·obtain rfl:r=3:=by rw[hr];show ((wholeC 4 x.kd:Nat):Int)=3;rw[wholeC4 (k:=x.kd) (by omega)];rfl
   have t1:(k==17)=false:=beq_false_of_ne a
   clear hn hk hr hz
   go_enter Tryz.func31,Tryz.ntmps31
   go_wp2_with fail
   go_ret
   exact⟨rfl,HW.out⟩
  ·obtain rfl:r=4:=by rw[hr];show ((wholeC 5 x.kd:Nat):Int)=4;rw[wholeC5 (k:=x.kd) (by omega)];rfl
   have t1:(k==17)=false:=beq_false_of_ne a
   clear hn hk hr hz
   go_enter Tryz.func31,Tryz.ntmps31
   go_wp2_with fail
   go_ret
   exact⟨rfl,HW.out⟩
  ·rw[hn 7 rfl] at hr
   obtain rfl:r=0:=hr
   clear hn hk hz
   go_enter Tryz.func31,Tryz.ntmps31
   go_wp2_with fail
   go_ret
   exact⟨rfl,HW.out⟩
  ·rw[hn 6 rfl] at hr
   obtain rfl:r=0:=hr
   clear hn hk hz
   go_enter Tryz.func31,Tryz.ntmps31
   go_wp2_with fail
   go_ret
   exact⟨rfl,HW.out⟩
  ·obtain rfl:r=5:=by rw[hr];show ((wholeC 6 x.kd:Nat):Int)=5;rw[wholeC6 (k:=x.kd) (by omega) (by omega) (by omega)];rfl
   have t1:(k==17)=false:=beq_false_of_ne a
   have t2:(k != 7)=true:=by simp[b]
   have t3:(k != 6)=true:=by simp[d]
   clear hn hk hr hz
   go_enter Tryz.func31,Tryz.ntmps31
   go_wp2_with fail
   go_ret
   exact⟨rfl,HW.out⟩
end Go.Proofs.YtgdifhhioahakaaGreatDoor
