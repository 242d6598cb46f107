/- ReparseTops: quillwortref11.Right of any row: where it says true, all nodes lie behind those that they hang on. -/
import Derived.Test.YtlbfdbinaekjoaaGreatDoorQf13
import Derived.Test.YtlbfdbinaekjoaaGreatDoorMb13
import Derived.BigQuiet
namespace Go.Proofs.YtlbfdbinaekjoaaGreatDoor
open Go.RowKit
set_option linter.unusedVariables false
set_option linter.unusedSimpArgs false
set_option maxRecDepth 100000
def abv (L:List Nz) (a:Nat):Nat→Nat→Bool
  | 0,_=>false
  | n+1,b=>a==b||(match L[b]? with|some x=>if 0≤x.up then abv L a n x.up.toNat else false|none=>false)
theorem abv_fuel {L:List Nz} {a N:Nat} (h:∀(j:Nat) (x:Nz),j<N→L[j]? = some x→x.up<(j:Int)):∀(n m b:Nat),b<N→b<n→b<m→abv L a n b=abv L a m b
  | 0,m,b,_,h1,_=>by omega
  | n+1,0,b,_,_,h2=>by omega
  | n+1,m+1,b,hb,h1,h2=>by
    unfold abv
    cases hx:L[b]? with
    | none=>rfl
    | some x=>
      simp only
      by_cases h0:0≤x.up
      ·rw[if_pos h0,if_pos h0]
       have:=h b x hb hx
       rw[abv_fuel h n m x.up.toNat (by omega) (by omega) (by omega)]
      ·rw[if_neg h0,if_neg h0]
theorem abv_step {L:List Nz} {a N b:Nat} {x:Nz} (h:∀(j:Nat) (x:Nz),j<N→L[j]? = some x→x.up<(j:Int)) (hb:b<N) (hx:L[b]? = some x) (hab:a≠b):abv L a (b+1) b=if 0≤x.up then abv L a (x.up.toNat+1) x.up.toNat else false:=by
  have hu:=h b x hb hx
  show (a==b||_)=_
  rw[beq_false_of_ne hab,hx]
  simp only[Bool.false_or]
  by_cases h0:0≤x.up
  ·rw[if_pos h0,if_pos h0]
   exact abv_fuel h _ _ _ (by omega) (by omega) (by omega)
  ·rw[if_neg h0,if_neg h0]
set_option maxHeartbeats 2000000 in
theorem abovez_m (L:List Nz) (A:Option Addr) (c a b N:Nat) (w:World) (hl:L.length≤100000) (hrd:Rd w w.heap.size 4 (.slice A L.length c) L.length (nzcs L)) (hN:N≤L.length) (hb:b<N) (h:∀(j:Nat) (x:Nz),j<N→L[j]? = some x→x.up<(j:Int) ∧ -1≤x.up) :
    Calls Tryz.prog 20 #[.slice A L.length c,.int .i64 (a:Int),.int .i64 (b:Int)] w fun e w'=>e=.returned (.bool (abv L a (b+1) b))∧w'=w:=by
  obtain⟨V,hV⟩:∃V,V=abv L a (b+1) b:=⟨_,rfl⟩
  rw[←hV]
  have HC:=Lib.hid (And.intro hrd (And.intro h hV))
  clear hrd h hV
  go_enter Tryz.func20,Tryz.ntmps20
  go_wp2_with fail
  go_loopw [2] (fun i wr=>((∃k:Nat,k<N∧i=.int .i64 k∧V=abv L a (k+1) k)∨(i=.int .i64 (-1)∧V=false))∧wr=w) (fun i _=>(intOf i+1).toNat)
  case atStart=>exact⟨.inl ⟨b,hb,rfl,HC.out.2.2⟩,rfl⟩
  case round=>
    obtain⟨hway,hw⟩:=hrel
    obtain rfl:=hw
    rcases hway with ⟨k,hk,rfl,hA⟩|⟨rfl,hA⟩
    ·have u2:(0:Int)≤(k:Int):=by omega
     by_cases hak:a=k
     ·subst hak
      have hV:V=true:=by rw[hA];show (a==a||_)=true;rw[beq_self_eq_true];rfl
      clear hA
      go_wp2_with fail
      go_ret
      exact⟨by first|rfl|(rw[hV];rfl),rfl⟩
     ·have t1:((a:Int)==(k:Int))=false:=beq_false_of_ne (by omega)
      have u1:(k:Int)<(L.length:Int):=by omega
      obtain⟨x,hx⟩:∃x,L[k]? = some x:=⟨_,List.getElem?_eq_getElem (by omega)⟩
      have hx2:=HC.out.2.1 k x hk hx
      rw[abv_step (fun j x h1 h2=>(HC.out.2.1 j x h1 h2).1) hk hx hak] at hA
      obtain⟨g,o,rfl,_,hc⟩:=rd_sat nzc_len HC.out.1 hx rfl
      have z3:wr.cell? ⟨g,o+k*4+3,none⟩=some (.int .i64 x.up):=hc 3 _ rfl
      have HX:=Lib.hid hA
      clear hc hx hA
      go_wp2_with fail
      refine⟨⟨?_,trivial⟩,by simp[intOf];omega⟩
      by_cases h0:0≤x.up
      ·have:=HX.out
       rw[if_pos h0] at this
       exact .inl ⟨x.up.toNat,by omega,by rw[Int.toNat_of_nonneg h0],this⟩
      ·have:=HX.out
       rw[if_neg h0] at this
       exact .inr ⟨by rw[show x.up = -1 by omega],this⟩
    ·have t1:decide ((0:Int) ≤ -1)=false:=by decide
     go_wp2_with fail
     go_ret
     exact⟨by first|rfl|(rw[hA];rfl),rfl⟩
def RtN (L:List Nz) (i:Nat) (x:Nz):Prop:=1≤x.kd∧x.kd≤18∧x.fr≤x.tt∧(0<i→0≤x.up∧x.up<(i:Int)∧∃y,L[x.up.toNat]? = some y∧y.fr≤x.fr)∧(i=0→x.up = -1∧x.fr=0)
end Go.Proofs.YtlbfdbinaekjoaaGreatDoor
