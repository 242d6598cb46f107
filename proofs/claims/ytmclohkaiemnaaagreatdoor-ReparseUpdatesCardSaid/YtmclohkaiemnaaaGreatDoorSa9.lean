/- Arguments that are structs: of one-cell fields, and lexings. Rows of structs, read cell by cell. -/
import Derived.Test.YtmclohkaiemnaaaGreatDoorPl6
import Derived.Test.YtmclohkaiemnaaaGreatDoorMem
import Derived.Deep.LoopGhost
import Derived.Deep.Draws
set_option linter.unusedVariables false
set_option linter.unusedSimpArgs false
set_option maxRecDepth 100000
set_option maxHeartbeats 8000000
namespace Go.Proofs.YtmclohkaiemnaaaGreatDoor
open Go.RowKit
section
open Go.RowKit Go.ChangeShapes Go.WideShapes Go.Deep
theorem sq {α:Type} {lay:α→List Value} {sz:Nat} (hl:∀x,(lay x).length=sz):∀(L:List α) (k:Nat) (x:α) (j:Nat) (u:Value),L[k]? = some x→(lay x)[j]? = some u→(L.flatMap lay)[k*sz+j]? = some u
  | [],k,x,j,u,h,_=>by simp at h
  | a::r,0,x,j,u,h,hu=>by
    simp at h;subst h;rw[List.flatMap_cons,aU (by have:=(az.1 hu).1;omega)];simpa using hu
  | a::r,k+1,x,j,u,h,hu=>by
    rw[List.flatMap_cons,aP (by rw[hl,Nat.add_mul];omega),hl,show (k+1)*sz+j-sz=k*sz+j by rw[Nat.add_mul];omega];exact sq hl r k x j u (by simpa using h) hu
theorem fW {α:Type} {lay:α→List Value} {sz:Nat} (hl:∀x,(lay x).length=sz) {w:World} {B n c:Nat} {A:Option Addr} {L:List α} (h:Rd w B sz (.slice A n c) n (L.flatMap lay)) {k:Nat} {x:α} (hk:L[k]? = some x) (hn:n=L.length) :
    ∃g o,A=some ⟨g,o,none⟩∧g<B∧∀j u,(lay x)[j]? = some u→w.cell? ⟨g,o+k*sz+j,none⟩=some u:=by
  obtain⟨h1,A',c',h2,h3,h4,h5,h6⟩:=h
  cases h2;have hkl:=(az.1 hk).1;obtain⟨g,o,ha,hg,hc⟩:=h6 (by omega);refine⟨g,o,ha,hg,fun j u hu=>?_⟩
  have:=hc (k*sz+j) _ (sq hl L k x j u hk hu)
  simpa [Nat.add_assoc] using this
end
theorem xK (g:Nat) (cb:Array Value) (n:Nat) (p:Nat→Bool) (w:World) (eg:∀args w,(callFunc g args).run Tryz.prog w=.ok (.enter g args) w) (hn:n≤100000)
    (hf:∀(m i:Nat),i<n→Calls Tryz.prog g (#[.int .i64 (i:Int)]++cb) (w.drewN m) fun e w'=>e=.returned (.bool (p i))∧∃q,w'=(w.drewN m).drewN q) (hm:∀a b,a≤b→b<n→p a=true→p b=true) :
    Calls Tryz.prog 77 #[.int .i64 (n:Int),.func (.func g) #[] cb] w fun e w'=>∃k:Nat,e=.returned (.int .i64 (k:Int))∧k≤n∧(∀t,t<k→p t=false)∧(∀t,k≤t→t<n→p t=true)∧∃q,w'=w.drewN q:=by
  have HF:=ac (ae hf hm);clear hf hm;go_enter Tryz.func77,Tryz.ntmps77;go_wp2;go_loopw [5,6] (fun s5 s6 wr=>∃lo hi q:Nat,s5=.int .i64 (lo:Int)∧s6=.int .i64 (hi:Int)∧lo≤hi∧hi≤n∧wr=w.drewN q∧(∀t,t<lo→p t=false)∧(∀t,hi≤t→t<n→p t=true)) (fun s5 s6 _=>(intOf s6-intOf s5).toNat)
  case atStart=>exact⟨0,n,0,rfl,rfl,bq _,au _,rfl,fun t h=>absurd h (Nat.not_lt_zero _),fun t h1 h2=>by omega⟩
  case round=>
    obtain⟨lo,hi,q,rfl,rfl,hlh,hin,rfl,hI1,hI2⟩:=hrel;have HI:=ac (ae hI1 hI2);clear hI1 hI2;by_cases hlt:lo<hi
    ·have u1:(lo:Int)<(hi:Int):=by omega
     obtain⟨m,hmid⟩:∃m,m=(lo+hi)/2:=⟨_,rfl⟩;have hc:=HF.out.1 q m (by omega);rw[show ((m:Nat):Int)=((lo:Int)+(hi:Int))/2 by omega] at hc;obtain⟨r,hr⟩:∃r,r=p m:=⟨_,rfl⟩;rw[←hr] at hc;have HC:=ac hc;have HR:=ac hr;have HD:=ac hmid;clear hc hr hmid
     cases r<;>go_wp2_with (
       (with_reducible refine HC.out.mono ?_
        rintro e w' ⟨rfl,nq,rfl⟩))
     ·have hmid:=HD.out;refine⟨⟨m+1,hi,q+nq,?_,rfl,by omega,hin,rfl,fun t ht=>?_,HI.out.2⟩,?_⟩
      ·rw[show ((m+1:Nat):Int)=((lo:Int)+(hi:Int))/2+1 by omega]
      ·cases h:p t with
       | false=>rfl
       | true=>have:=HF.out.2 t m (by omega) (by omega) h;rw[←HR.out] at this;cases this
      ·simp[intOf];omega
     ·have hmid:=HD.out;refine⟨⟨lo,m,q+nq,rfl,?_,by omega,by omega,rfl,HI.out.1,fun t ht htn=>HF.out.2 m t ht htn HR.out.symm⟩,?_⟩
      ·rw[show ((m:Nat):Int)=((lo:Int)+(hi:Int))/2 by omega]
      ·simp[intOf];omega
    ·obtain rfl:hi=lo:=by omega
     go_wp2;go_ret;exact⟨hi,rfl,hin,HI.out.1,HI.out.2,q,rfl⟩
end Go.Proofs.YtmclohkaiemnaaaGreatDoor
