/- quillwortref09.Here: where a document ends, as the reference finds it. -/
import Derived.Test.YtmclohkaiemnaaaGreatDoorLa9
import Derived.Test.YtmclohkaiemnaaaGreatDoorMem
import Derived.Lib.Strings
set_option linter.unusedVariables false
set_option linter.unusedSimpArgs false
set_option maxRecDepth 100000
set_option maxHeartbeats 8000000
namespace Go.Proofs.YtmclohkaiemnaaaGreatDoor
open Go.RowKit
theorem NV (l:List UInt8) (i:Nat) (h:i<l.length):∃hh:i<(ByteArray.mk l.toArray).size,(ByteArray.mk l.toArray)[i]'hh=l.getD i 0:=⟨h,by rw[aF,ax h];rfl⟩
def uo:List UInt8:=[38,38,32,124,124,32,59,59,32,60,60,32,60,60,45,62,62,32,60,38,32,62,38,32,60,62,32,62,124,32,60,32,32,62,32,32,38,32,32,59,32,32,124,32,32,40,32,32,41,32,32]
def xj:Nat→List UInt8→List UInt8
  | 0,S=>S
  | m+1,S=>if (S.getLastD 0).toNat=32 then xj m S.dropLast else S
theorem Cs:∀k,1≤k→k≤17→xj 3 (sub uo (3*(k-1)) (3*k))=jd k:=by
  have:((List.range 17).all fun k=>xj 3 (sub uo (3*k) (3*(k+1)))==jd (k+1))=true:=by decide +kernel
  intro k h1 h2;have h:=bV.1 this (k-1) (cI.2 (by omega));rw[show k-1+1=k by omega] at h;simpa using h
theorem Lu (k:Nat) (hk:k≤17) (w:World):ls 41 #[.int .i64 (k:Int)] w (.string ⟨(jd k).toArray⟩):=by
  by_cases h0:k=0
  ·subst h0;go_enter Tryz.func41,Tryz.ntmps41;go_wp2;go_ret;exact⟨rfl,rfl⟩
  ·obtain⟨j,rfl⟩:∃j,k=j+1:=⟨k-1,by omega⟩;have d1:decide (((j+1:Nat):Int)<1)=false:=aE (by omega);have d2:decide ((17:Int)<((j+1:Nat):Int))=false:=aE (by omega);have htr:=Cs (j+1) (by omega) hk;obtain⟨S,hS⟩:∃S,S=sub uo (3*(j+1-1)) (3*(j+1)):=⟨_,rfl⟩;rw[←hS] at htr;have hSl:S.length=3:=by rw[hS];unfold sub uo;simp;omega
   have HS:=ac (ae hS htr);clear hS htr;go_enter Tryz.func41,Tryz.ntmps41;go_wp2_with fail;have hext:(ByteArray.mk uo.toArray).extract (3*j) (3*(j+1))=⟨S.toArray⟩:=by rw[fq,HS.out.1];rfl
   have HX:=ac hext;clear hext;go_loop [3] (fun s=>∃T:List UInt8,T.length≤3∧s=.string ⟨T.toArray⟩∧xj T.length T=jd (j+1)) (fun s=>match s with | .string b=>b.size|_=>0)
   case atStart=>exact⟨S,by omega,by rw[←HX.out];rfl,by rw[hSl];exact HS.out.2⟩
   case round=>
     obtain⟨T,hT,rfl,htr⟩:=hrel;by_cases hne:0<T.length
     ·obtain⟨m,hm⟩:∃m,T.length=m+1:=⟨T.length-1,by omega⟩;obtain⟨g1,g2⟩:=NV T m (by omega);obtain⟨c,hc⟩:∃c,c=T.getD m 0:=⟨_,rfl⟩;have hlast:T.getLastD 0=c:=by
        rw[hc]
        cases T with
        | nil=>simp at hm
        | cons a r=>
          rw[List.getLastD_eq_getLast?,List.getLast?_eq_getElem?,aF,hm];rfl
      rw[←hc] at g2;have d0:decide ((0:Int)<(T.length:Int))=true:=aG (by omega);have e1:(T.length:Int)-1=(m:Int):=by omega
      have e2:(m:Int)<(T.length:Int):=by omega
      have e3:(0:Int)≤(m:Int):=by omega
      have e4:(m:Int)≤(T.length:Int):=by omega
      rw[hm] at htr;unfold xj at htr;rw[hlast] at htr;have HM:=ac (ae hm htr);by_cases h32:c.toNat=32
      ·have b1:((c.toNat:Int)==32)=true:=by rw[bA];omega
       have hdl:(ByteArray.mk T.toArray).extract 0 m=⟨(T.take m).toArray⟩:=by rw[fq];rfl
       have htl:T.dropLast=T.take m:=by rw[List.dropLast_eq_take,hm];rfl
       have hlen:(T.take m).length=m:=by rw[bz];omega
       rw[aB h32,htl] at htr;have HD:=ac (ae hdl (ae hlen htr));clear hm htr hc hlast hdl htl hlen;go_wp2;refine⟨⟨T.take m,?_,?_,?_⟩,?_⟩
       ·rw[HD.out.2.1];omega
       ·rw[HD.out.1]
       ·rw[HD.out.2.1];exact HD.out.2.2
       ·show ((ByteArray.mk T.toArray).extract 0 m).size<T.length;rw[HD.out.1];show (T.take m).length<_;rw[HD.out.2.1,HM.out.1];omega
      ·have b1:((c.toNat:Int)==32)=false:=by rw[aK];omega
       rw[aC h32] at htr;have HT:=ac htr;clear hm hc hlast htr;go_wp2;go_ret;exact⟨by rw[←HT.out]<;>rfl,rfl⟩
     ·have d0:decide ((0:Int)<(T.length:Int))=false:=aE (by omega);obtain rfl:T=[]:=bN (by omega);have htr:[]=jd (j+1):=htr;have HT:=ac htr;clear htr;go_wp2;go_ret;exact⟨by rw[←HT.out];rfl,rfl⟩
end Go.Proofs.YtmclohkaiemnaaaGreatDoor
