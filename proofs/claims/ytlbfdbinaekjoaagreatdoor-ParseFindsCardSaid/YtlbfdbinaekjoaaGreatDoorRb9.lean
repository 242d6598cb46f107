/- The reference's names and parameters (quillwortref04: IsName, Name, Param). -/
import Derived.Test.YtlbfdbinaekjoaaGreatDoorCls
import Derived.Test.YtlbfdbinaekjoaaGreatDoorLa9
import Derived.Test.YtlbfdbinaekjoaaGreatDoorMem
import Derived.Lib.Strings
namespace Go.Proofs.YtlbfdbinaekjoaaGreatDoor
open Go.RowKit
set_option linter.unusedVariables false
set_option linter.unusedSimpArgs false
set_option maxRecDepth 100000
def isNameL (l:List UInt8):Bool:=match l with
  | []=>false
  | c::r=>letB c&&r.all nameB
theorem bne_of {a b:Int} {x:Bool} (h:(a==b)=x):(a != b) = !x:=by rw[←h];rfl
set_option maxHeartbeats 1000000 in
theorem isName_r (l:List UInt8) (w:World) (hl:l.length≤100000) :
    Calls Tryz.prog 29 #[.string ⟨l.toArray⟩] w fun e w'=>e=.returned (.bool (isNameL l))∧w=w':=by
  cases l with
  | nil=>
    go_enter Tryz.func29,Tryz.ntmps29
    go_wp2
    go_ret
    exact⟨rfl,rfl⟩
  | cons c r=>
    obtain⟨m,hm⟩:∃m:List UInt8,m=c::r:=⟨_,rfl⟩
    have hlen:m.length=r.length+1:=by rw[hm];rfl
    have hl0:((m.length:Int)==0)=false:=by rw[beq_eq_false_iff_ne];omega
    have hl1:(0:Int)<(m.length:Int):=by omega
    have hl2:0<m.length:=by omega
    have hb0:∃h:0<(ByteArray.mk m.toArray).size,(ByteArray.mk m.toArray)[0]'h=c:=⟨hl2,by subst hm;rfl⟩
    obtain⟨hb1,hb2⟩:=hb0
    have hat:∀k,m[k+1]? = r[k]? := by intro k;subst hm;rfl
    have hres:isNameL (c::r)=(letB c&&r.all nameB):=rfl
    rw[hres,←hm]
    have hl':m.length≤100000:=by rw[hm];exact hl
    have HA:=Lib.hid hat
    clear hat hl hres
    by_cases hc:letB c=true
    ·have hc5:(clsOf c==5)=true:=hc
     have hn5:(clsOf c != 5)=false:=bne_of hc5
     rw[hc,Bool.true_and]
     clear hm hc
     have HLE:=Lib.hid hlen
     clear hlen
     go_enter Tryz.func29,Tryz.ntmps29
     go_wp2_with (go_at_call 47;refine(class_c c _).mono ?_;rintro e w' ⟨rfl,rfl⟩)
     go_loop [3] (fun i=>∃k:Nat,k≤r.length∧i=.int .i64 ((k:Int)+1)∧(r.take k).all nameB=true) (fun i=>r.length+1-(intOf i).toNat)
     case atStart=>exact⟨0,by omega,rfl,rfl⟩
     case round=>
       obtain⟨k,hk,rfl,hp⟩:=hrel
       have HP:=Lib.hid hp
       clear hp
       by_cases hlt:k<r.length
       ·obtain⟨d,hd⟩:∃d,r[k]? = some d:=⟨_,List.getElem?_eq_getElem hlt⟩
        have hdm:m[k+1]? = some d:=by rw[HA.out,hd]
        obtain⟨g1,g2⟩:=List.getElem?_eq_some_iff.1 hdm
        have g3:(ByteArray.mk m.toArray)[k+1]'(show k+1<m.length from g1)=d:=g2
        have k1:(k:Int)+1<(m.length:Int):=by omega
        have k2:(0:Int)≤(k:Int)+1:=by omega
        have k3:((k:Int)+1).toNat=k+1:=by omega
        have HD:=Lib.hid hd
        clear g2 hd hdm
        cases hx:letB d
        ·have q1:(clsOf d==5)=false:=hx
         have q2:(clsOf d != 5)=true:=bne_of q1
         cases hy:digB d
         ·have q3:(clsOf d==6)=false:=hy
          have q4:(clsOf d != 6)=true:=bne_of q3
          have HX:=Lib.hid (And.intro hx hy)
          clear hx hy
          go_wp2_with (go_at_call 47;refine(class_c d _).mono ?_;rintro e w' ⟨rfl,rfl⟩)
          go_ret
          refine⟨ret_bool ?_,rfl⟩
          symm
          rw[List.all_eq_false]
          exact⟨d,List.mem_of_getElem? HD.out,by simp[nameB,HX.out.1,HX.out.2]⟩
         ·have q3:(clsOf d==6)=true:=hy
          have q4:(clsOf d != 6)=false:=bne_of q3
          have HX:=Lib.hid (And.intro hx hy)
          clear hx hy
          go_wp2_with (go_at_call 47;refine(class_c d _).mono ?_;rintro e w' ⟨rfl,rfl⟩)
          refine⟨⟨k+1,by omega,by go_num,?_⟩,by simp[intOf];omega⟩
          obtain⟨t1,t2⟩:=List.getElem?_eq_some_iff.1 HD.out
          rw[List.take_succ_eq_append_getElem t1,t2,List.all_append,HP.out]
          simp[nameB,HX.out.1,HX.out.2]
        ·have q1:(clsOf d==5)=true:=hx
         have q2:(clsOf d != 5)=false:=bne_of q1
         have HX:=Lib.hid hx
         clear hx
         go_wp2_with (go_at_call 47;refine(class_c d _).mono ?_;rintro e w' ⟨rfl,rfl⟩)
         refine⟨⟨k+1,by omega,by go_num,?_⟩,by simp[intOf];omega⟩
         obtain⟨t1,t2⟩:=List.getElem?_eq_some_iff.1 HD.out
         rw[List.take_succ_eq_append_getElem t1,t2,List.all_append,HP.out]
         simp[nameB,HX.out]
       ·have k1:¬(k:Int)+1<(m.length:Int):=by have:=HLE.out;omega
        go_wp2
        go_ret
        refine⟨ret_bool ?_,rfl⟩
        have:=HP.out
        rw[List.take_of_length_le (by omega)] at this
        exact this.symm
    ·have hc':letB c=false:=by simpa using hc
     have hc5:(clsOf c==5)=false:=hc'
     have hn5:(clsOf c != 5)=true:=bne_of hc5
     rw[hc',Bool.false_and]
     clear hm hc hc'
     go_enter Tryz.func29,Tryz.ntmps29
     go_wp2_with (go_at_call 47;refine(class_c c _).mono ?_;rintro e w' ⟨rfl,rfl⟩)
     go_ret
     exact⟨rfl,rfl⟩
end Go.Proofs.YtlbfdbinaekjoaaGreatDoor
namespace Go.Proofs.YtlbfdbinaekjoaaGreatDoor
open Go.RowKit
set_option linter.unusedVariables false
set_option linter.unusedSimpArgs false
set_option maxRecDepth 100000
theorem all_take {p:UInt8→Bool}:∀(l:List UInt8) (k:Nat),k≤l.length→((l.take k).all p=true↔k≤(l.takeWhile p).length)
  | [],k,h=>by simp at h;subst h;simp
  | c::l,0,_=>by simp
  | c::l,k+1,h=>by
    by_cases hc:p c=true
    ·rw[List.takeWhile_cons_of_pos hc,List.take_succ_cons,List.all_cons,hc,Bool.true_and,all_take l k (by simpa using h)]
     simp
    ·rw[List.takeWhile_cons_of_neg hc,List.take_succ_cons,List.all_cons]
     simp[hc]
theorem isName_take (l:List UInt8) (k:Nat) (h1:1≤k) (hk:k≤l.length):isNameL (l.take k)=decide (k≤nameLen l):=by
  cases l with
  | nil=>simp at hk;omega
  | cons c r=>
    obtain⟨k,rfl⟩:∃k',k=k'+1:=⟨k-1,by omega⟩
    rw[List.take_succ_cons]
    unfold isNameL nameLen
    by_cases hc:letB c=true
    ·have hn:nameB c=true:=by simp[nameB,hc]
     simp only[hc,Bool.true_and,if_true]
     rw[List.takeWhile_cons_of_pos hn,Bool.eq_iff_iff,all_take r k (by simpa using hk)]
     simp
    ·simp[hc]
end Go.Proofs.YtlbfdbinaekjoaaGreatDoor
namespace Go.Proofs.YtlbfdbinaekjoaaGreatDoor
open Go.RowKit
set_option linter.unusedVariables false
set_option linter.unusedSimpArgs false
set_option maxRecDepth 100000
theorem sub_self (l:List UInt8) (i:Nat):sub l i i=[]:=by unfold sub;rw[List.drop_eq_nil_of_le];rw[List.length_take];omega
theorem ba_at (l:List UInt8) (i:Nat) (h:i<l.length):∃hh:i<(ByteArray.mk l.toArray).size,(ByteArray.mk l.toArray)[i]'hh=l.getD i 0:=⟨h,by rw[List.getD_eq_getElem?_getD,List.getElem?_eq_getElem h];rfl⟩
end Go.Proofs.YtlbfdbinaekjoaaGreatDoor
namespace Go.Proofs.YtlbfdbinaekjoaaGreatDoor
open Go.RowKit
set_option linter.unusedVariables false
set_option linter.unusedSimpArgs false
set_option maxRecDepth 100000
def allOps:List UInt8:=[38,38,32,124,124,32,59,59,32,60,60,32,60,60,45,62,62,32,60,38,32,62,38,32,60,62,32,62,124,32,60,32,32,62,32,32,38,32,32,59,32,32,124,32,32,40,32,32,41,32,32]
def trimR:Nat→List UInt8→List UInt8
  | 0,S=>S
  | m+1,S=>if (S.getLastD 0).toNat=32 then trimR m S.dropLast else S
theorem trimR_ops:∀k,1≤k→k≤17→trimR 3 (sub allOps (3*(k-1)) (3*k))=opTx k:=by
  have:((List.range 17).all fun k=>trimR 3 (sub allOps (3*k) (3*(k+1)))==opTx (k+1))=true:=by decide +kernel
  intro k h1 h2
  have h:=List.all_eq_true.1 this (k-1) (List.mem_range.2 (by omega))
  rw[show k-1+1=k by omega] at h
  simpa using h
set_option maxHeartbeats 1000000 in
theorem text_r (k:Nat) (hk:k≤17) (w:World):Calls Tryz.prog 46 #[.int .i64 (k:Int)] w fun e w'=>e=.returned (.string ⟨(opTx k).toArray⟩)∧w=w':=by
  by_cases h0:k=0
  ·subst h0
   go_enter Tryz.func46,Tryz.ntmps46
   go_wp2
   go_ret
   exact⟨rfl,rfl⟩
  ·obtain⟨j,rfl⟩:∃j,k=j+1:=⟨k-1,by omega⟩
   have d1:decide (((j+1:Nat):Int)<1)=false:=decide_eq_false (by omega)
   have d2:decide ((17:Int)<((j+1:Nat):Int))=false:=decide_eq_false (by omega)
   have htr:=trimR_ops (j+1) (by omega) hk
   obtain⟨S,hS⟩:∃S,S=sub allOps (3*(j+1-1)) (3*(j+1)):=⟨_,rfl⟩
   rw[←hS] at htr
   have hSl:S.length=3:=by rw[hS];unfold sub allOps;simp;omega
   have HS:=Lib.hid (And.intro hS htr)
   clear hS htr
   go_enter Tryz.func46,Tryz.ntmps46
   go_wp2_with fail
   have hext:(ByteArray.mk allOps.toArray).extract (3*j) (3*(j+1))=⟨S.toArray⟩:=by rw[ba_extract,HS.out.1];rfl
   have HX:=Lib.hid hext
   clear hext
   go_loop [3] (fun s=>∃T:List UInt8,T.length≤3∧s=.string ⟨T.toArray⟩∧trimR T.length T=opTx (j+1)) (fun s=>match s with | .string b=>b.size|_=>0)
   case atStart=>exact⟨S,by omega,by rw[←HX.out];rfl,by rw[hSl];exact HS.out.2⟩
   case round=>
     obtain⟨T,hT,rfl,htr⟩:=hrel
     by_cases hne:0<T.length
     ·obtain⟨m,hm⟩:∃m,T.length=m+1:=⟨T.length-1,by omega⟩
      obtain⟨g1,g2⟩:=ba_at T m (by omega)
      obtain⟨c,hc⟩:∃c,c=T.getD m 0:=⟨_,rfl⟩
      have hlast:T.getLastD 0=c:=by
        rw[hc]
        cases T with
        | nil=>simp at hm
        | cons a r=>
          rw[List.getLastD_eq_getLast?,List.getLast?_eq_getElem?,List.getD_eq_getElem?_getD,hm]
          rfl
      rw[←hc] at g2
      have d0:decide ((0:Int)<(T.length:Int))=true:=decide_eq_true (by omega)
      have e1:(T.length:Int)-1=(m:Int):=by omega
      have e2:(m:Int)<(T.length:Int):=by omega
      have e3:(0:Int)≤(m:Int):=by omega
      have e4:(m:Int)≤(T.length:Int):=by omega
      rw[hm] at htr
      unfold trimR at htr
      rw[hlast] at htr
      have HM:=Lib.hid (And.intro hm htr)
      by_cases h32:c.toNat=32
      ·have b1:((c.toNat:Int)==32)=true:=by rw[beq_iff_eq];omega
       have hdl:(ByteArray.mk T.toArray).extract 0 m=⟨(T.take m).toArray⟩:=by rw[ba_extract];rfl
       have htl:T.dropLast=T.take m:=by rw[List.dropLast_eq_take,hm];rfl
       have hlen:(T.take m).length=m:=by rw[List.length_take];omega
       rw[if_pos h32,htl] at htr
       have HD:=Lib.hid (And.intro hdl (And.intro hlen htr))
       clear hm htr hc hlast hdl htl hlen
       go_wp2
       refine⟨⟨T.take m,?_,?_,?_⟩,?_⟩
       ·rw[HD.out.2.1];omega
       ·rw[HD.out.1]
       ·rw[HD.out.2.1];exact HD.out.2.2
       ·show ((ByteArray.mk T.toArray).extract 0 m).size<T.length
        rw[HD.out.1]
        show (T.take m).length<_
        rw[HD.out.2.1,HM.out.1]
        omega
      ·have b1:((c.toNat:Int)==32)=false:=by rw[beq_eq_false_iff_ne];omega
       rw[if_neg h32] at htr
       have HT:=Lib.hid htr
       clear hm hc hlast htr
       go_wp2
       go_ret
       exact⟨by rw[←HT.out]<;>rfl,rfl⟩
     ·have d0:decide ((0:Int)<(T.length:Int))=false:=decide_eq_false (by omega)
      obtain rfl:T=[]:=List.eq_nil_of_length_eq_zero (by omega)
      have htr:[]=opTx (j+1):=htr
      have HT:=Lib.hid htr
      clear htr
      go_wp2
      go_ret
      exact⟨by rw[←HT.out];rfl,rfl⟩
end Go.Proofs.YtlbfdbinaekjoaaGreatDoor
