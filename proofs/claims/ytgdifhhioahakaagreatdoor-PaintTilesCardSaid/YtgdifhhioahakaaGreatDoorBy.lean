/- The number of a byte's part: parts.of and quillwortref07.Byte. -/
import Derived.Test.YtgdifhhioahakaaGreatDoorExp
import Derived.Test.YtgdifhhioahakaaGreatDoorLa9
namespace Go.Proofs.YtgdifhhioahakaaGreatDoor
open Go.RowKit
set_option linter.unusedVariables false
set_option linter.unusedSimpArgs false
set_option maxRecDepth 100000
def byF (L:List Prt) (x:Int):Nat→Int
  | 0 => -1
  | k+1=>if (L.getD k dP).fr≤x∧x<toP (L.getD k dP) then (k:Int) else byF L x k
theorem byF_succ {L:List Prt} {x:Int} {k:Nat} {q:Prt} (h:L[k]? = some q):byF L x (k+1)=if q.fr≤x∧x<toP q then (k:Int) else byF L x k:=by
  have e:L.getD k dP=q:=getD_some h
  show (if _ then _ else _)=_
  rw[e]
set_option maxHeartbeats 1000000 in
theorem of_p (L:List Prt) (x:Int) (c n:Nat) (A:Option Addr) (w:World) (hL:L.length≤100000) (hn:n=L.length) (hr:Rd w w.heap.size 5 (.slice A n c) n (pcells L)) :
    Calls Tryz.prog 101 #[.slice A n c,.int .i64 x] w fun e w'=>e=.returned (.int .i64 (byF L x L.length))∧w=w':=by
  subst hn
  have H:=Lib.hid hr
  clear hr
  obtain⟨X,hX⟩:∃X,X=byF L x L.length:=⟨_,rfl⟩
  rw[←hX]
  have HX:=Lib.hid hX
  clear hX
  go_enter Tryz.func101,Tryz.ntmps101
  go_wp2_with fail
  go_step3
  go_wp2_with fail
  go_step3
  go_wp2_with fail
  go_loop [5] (fun s=>∃k:Nat,k≤L.length∧s=.int .i64 ((k:Int)-1)∧X=byF L x k) (fun s=>(intOf s+1).toNat)
  case atStart=>exact⟨L.length,Nat.le_refl _,rfl,HX.out⟩
  case round=>
    obtain⟨k,hk,rfl,hxk⟩:=hrel
    cases k with
    | zero=>
      have HS:=Lib.hid hxk
      clear hxk
      go_wp2_with fail
      go_ret
      exact⟨by rw[HS.out];rfl,rfl⟩
    | succ k=>
      have u1:(k:Int)<(L.length:Int):=by omega
      have u2:(0:Int)≤(k:Int):=by omega
      have u3:((k+1:Nat):Int)-1=(k:Int):=by omega
      obtain⟨q,hq⟩:∃q,L[k]? = some q:=⟨_,List.getElem?_eq_getElem (by omega)⟩
      obtain⟨g,o,rfl,hg,y0,y1,y2,y3,y4⟩:=rd_part H.out hq
      rw[byF_succ (x:=x) hq] at hxk
      rw[u3]
      clear u3
      have HS:=Lib.hid hxk
      clear hxk hq
      by_cases h1:q.fr≤x
      ·have t1:decide (q.fr≤x)=true:=by simpa using h1
       by_cases h2:x<toP q
       ·have t2:decide (x<toP q)=true:=by simpa using h2
        go_wp2_with fail
        go_ret
        exact⟨ret_int (by rw[HS.out,if_pos ⟨h1,h2⟩]),rfl⟩
       ·have t2:decide (x<toP q)=false:=by simpa using h2
        go_wp2_with fail
        exact⟨⟨k,by omega,rfl,by rw[HS.out,if_neg (fun h=>h2 h.2)]⟩,by simp[intOf]⟩
      ·have t1:decide (q.fr≤x)=false:=by simpa using h1
       go_wp2_with fail
       exact⟨⟨k,by omega,rfl,by rw[HS.out,if_neg (fun h=>h1 h.1)]⟩,by simp[intOf]⟩
end Go.Proofs.YtgdifhhioahakaaGreatDoor
