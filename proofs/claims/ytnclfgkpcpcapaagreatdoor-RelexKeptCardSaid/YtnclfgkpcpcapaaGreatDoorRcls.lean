/- The reference's names and parameters (quillwortref04: IsName, Name, Param). -/
import Derived.Test.YtnclfgkpcpcapaaGreatDoorCls
namespace Go.Proofs.YtnclfgkpcpcapaaGreatDoor
open Go.RowKit
set_option linter.unusedVariables false
set_option linter.unusedSimpArgs false
set_option maxRecDepth 100000
def isNameL (l:List UInt8):Bool:=match l with
  | []=>false
  | c::r=>letB c&&r.all nameB
theorem bne_of {a b:Int} {x:Bool} (h:(a==b)=x):(a != b) = !x:=by rw[←h];rfl
set_option maxHeartbeats 1000000 in
theorem isName_r (l:List UInt8) (w:World) (hl:l.length≤100000) :
    Calls Tryz.prog 135 #[.string ⟨l.toArray⟩] w fun e w'=>e=.returned (.bool (isNameL l))∧w=w':=by
  cases l with
  | nil=>
    go_enter Tryz.func135,Tryz.ntmps135
    go_wp2
    go_ret
    exact⟨rfl,rfl⟩
  | cons c r=>
    obtain⟨m,hm⟩:∃m:List UInt8,m=c::r:=⟨_,rfl⟩
    have hlen:m.length=r.length+1:=by rw[hm];rfl
    have hl0:((m.length:Int)==0)=false:=by rw[beq_eq_false_iff_ne];omega
    have hl1:(0:Int)<(m.length:Int):=by omega
    have hl2:0<m.length:=by omega
    have hb0:∃h:0<(ByteArray.mk m.toArray).size,(ByteArray.mk m.toArray)[0]'h=c:=⟨hl2,by subst hm;rfl⟩
    obtain⟨hb1,hb2⟩:=hb0
    have hat:∀k,m[k+1]? = r[k]? := by intro k;subst hm;rfl
    have hres:isNameL (c::r)=(letB c&&r.all nameB):=rfl
    rw[hres,←hm]
    have hl':m.length≤100000:=by rw[hm];exact hl
    have HA:=Lib.hid hat
    clear hat hl hres
    by_cases hc:letB c=true
    ·have hc5:(clsOf c==5)=true:=hc
     have hn5:(clsOf c != 5)=false:=bne_of hc5
     rw[hc,Bool.true_and]
     clear hm hc
     have HLE:=Lib.hid hlen
     clear hlen
     go_enter Tryz.func135,Tryz.ntmps135
     go_wp2_with (go_at_call 39;refine(class_c c _).mono ?_;rintro e w' ⟨rfl,rfl⟩)
     go_loop [3] (fun i=>∃k:Nat,k≤r.length∧i=.int .i64 ((k:Int)+1)∧(r.take k).all nameB=true) (fun i=>r.length+1-(intOf i).toNat)
     case atStart=>exact⟨0,by omega,rfl,rfl⟩
     case round=>
       obtain⟨k,hk,rfl,hp⟩:=hrel
       have HP:=Lib.hid hp
       clear hp
       by_cases hlt:k<r.length
       ·obtain⟨d,hd⟩:∃d,r[k]? = some d:=⟨_,List.getElem?_eq_getElem hlt⟩
        have hdm:m[k+1]? = some d:=by rw[HA.out,hd]
        obtain⟨g1,g2⟩:=List.getElem?_eq_some_iff.1 hdm
        have g3:(ByteArray.mk m.toArray)[k+1]'(show k+1<m.length from g1)=d:=g2
        have k1:(k:Int)+1<(m.length:Int):=by omega
        have k2:(0:Int)≤(k:Int)+1:=by omega
        have k3:((k:Int)+1).toNat=k+1:=by omega
        have HD:=Lib.hid hd
        clear g2 hd hdm
        cases hx:letB d
        ·have q1:(clsOf d==5)=false:=hx
         have q2:(clsOf d != 5)=true:=bne_of q1
         cases hy:digB d
         ·have q3:(clsOf d==6)=false:=hy
          have q4:(clsOf d != 6)=true:=bne_of q3
          have HX:=Lib.hid (And.intro hx hy)
          clear hx hy
          go_wp2_with (go_at_call 39;refine(class_c d _).mono ?_;rintro e w' ⟨rfl,rfl⟩)
          go_ret
          refine⟨ret_bool ?_,rfl⟩
          symm
          rw[List.all_eq_false]
          exact⟨d,List.mem_of_getElem? HD.out,by simp[nameB,HX.out.1,HX.out.2]⟩
         ·have q3:(clsOf d==6)=true:=hy
          have q4:(clsOf d != 6)=false:=bne_of q3
          have HX:=Lib.hid (And.intro hx hy)
          clear hx hy
          go_wp2_with (go_at_call 39;refine(class_c d _).mono ?_;rintro e w' ⟨rfl,rfl⟩)
          refine⟨⟨k+1,by omega,by go_num,?_⟩,by simp[intOf];omega⟩
          obtain⟨t1,t2⟩:=List.getElem?_eq_some_iff.1 HD.out
          rw[List.take_succ_eq_append_getElem t1,t2,List.all_append,HP.out]
          simp[nameB,HX.out.1,HX.out.2]
        ·have q1:(clsOf d==5)=true:=hx
         have q2:(clsOf d != 5)=false:=bne_of q1
         have HX:=Lib.hid hx
         clear hx
         go_wp2_with (go_at_call 39;refine(class_c d _).mono ?_;rintro e w' ⟨rfl,rfl⟩)
         refine⟨⟨k+1,by omega,by go_num,?_⟩,by simp[intOf];omega⟩
         obtain⟨t1,t2⟩:=List.getElem?_eq_some_iff.1 HD.out
         rw[List.take_succ_eq_append_getElem t1,t2,List.all_append,HP.out]
         simp[nameB,HX.out]
       ·have k1:¬(k:Int)+1<(m.length:Int):=by have:=HLE.out;omega
        go_wp2
        go_ret
        refine⟨ret_bool ?_,rfl⟩
        have:=HP.out
        rw[List.take_of_length_le (by omega)] at this
        exact this.symm
    ·have hc':letB c=false:=by simpa using hc
     have hc5:(clsOf c==5)=false:=hc'
     have hn5:(clsOf c != 5)=true:=bne_of hc5
     rw[hc',Bool.false_and]
     clear hm hc hc'
     go_enter Tryz.func135,Tryz.ntmps135
     go_wp2_with (go_at_call 39;refine(class_c c _).mono ?_;rintro e w' ⟨rfl,rfl⟩)
     go_ret
     exact⟨rfl,rfl⟩
end Go.Proofs.YtnclfgkpcpcapaaGreatDoor
namespace Go.Proofs.YtnclfgkpcpcapaaGreatDoor
open Go.RowKit
set_option linter.unusedVariables false
set_option linter.unusedSimpArgs false
set_option maxRecDepth 100000
theorem all_take {p:UInt8→Bool}:∀(l:List UInt8) (k:Nat),k≤l.length→((l.take k).all p=true↔k≤(l.takeWhile p).length)
  | [],k,h=>by simp at h;subst h;simp
  | c::l,0,_=>by simp
  | c::l,k+1,h=>by
    by_cases hc:p c=true
    ·rw[List.takeWhile_cons_of_pos hc,List.take_succ_cons,List.all_cons,hc,Bool.true_and,all_take l k (by simpa using h)]
     simp
    ·rw[List.takeWhile_cons_of_neg hc,List.take_succ_cons,List.all_cons]
     simp[hc]
theorem isName_take (l:List UInt8) (k:Nat) (h1:1≤k) (hk:k≤l.length):isNameL (l.take k)=decide (k≤nameLen l):=by
  cases l with
  | nil=>simp at hk;omega
  | cons c r=>
    obtain⟨k,rfl⟩:∃k',k=k'+1:=⟨k-1,by omega⟩
    rw[List.take_succ_cons]
    unfold isNameL nameLen
    by_cases hc:letB c=true
    ·have hn:nameB c=true:=by simp[nameB,hc]
     simp only[hc,Bool.true_and,if_true]
     rw[List.takeWhile_cons_of_pos hn,Bool.eq_iff_iff,all_take r k (by simpa using hk)]
     simp
    ·simp[hc]
set_option maxHeartbeats 1000000 in
theorem rname_r (l:List UInt8) (i:Nat) (w:World) (hi:i≤l.length) (hl:l.length≤100000) :
    Calls Tryz.prog 129 #[.string ⟨l.toArray⟩,.int .i64 (i:Int)] w fun e w'=>e=.returned (.int .i64 (nmL l i:Int))∧w=w':=by
  have hle:=nmL_le l i
  have hkey:∀k,1≤k→i+k≤l.length→isNameL ((l.drop i).take k)=decide (k≤nmL l i):=fun k h1 h2=>by
    rw[nmL_eq];exact isName_take _ k h1 (by simp;omega)
  generalize nmL l i=N at *
  have HK:=Lib.hid hkey
  clear hkey
  go_enter Tryz.func129,Tryz.ntmps129
  go_wp2
  go_loop [5,6] (fun n k=>∃j:Nat,i+j≤l.length∧k=.int .i64 ((j:Int)+1)∧n=.int .i64 ((min j N:Nat):Int)) (fun _ k=>l.length+1-(intOf k).toNat)
  case atStart=>exact⟨0,by omega,rfl,by simp⟩
  case round=>
    obtain⟨j,hj,rfl,rfl⟩:=hrel
    by_cases hlt:i+(j+1)≤l.length
    ·have k1:decide ((j:Int)+1≤(l.length:Int)-(i:Int))=true:=by simp;omega
     have k2:(i:Int)+((j:Int)+1)≤(l.length:Int):=by omega
     have k3:(0:Int)≤(i:Int)+((j:Int)+1):=by omega
     have k4:((i:Int)+((j:Int)+1)).toNat=i+(j+1):=by omega
     have k5:(i:Int)≤(i:Int)+((j:Int)+1):=by omega
     have hx:=HK.out (j+1) (by omega) hlt
     have he:(ByteArray.mk l.toArray).extract i (i+(j+1))=⟨((l.drop i).take (j+1)).toArray⟩:=by
       rw[ba_extract,←List.take_drop]
     by_cases hN:j+1≤N
     ·have hx':isNameL ((l.drop i).take (j+1))=true:=by rw[hx];simpa using hN
      have HX:=Lib.hid (And.intro hx' he)
      clear hx hx' he
      go_wp2_with (go_at_call 135;rw[HX.out.2];refine(isName_r _ _ (by simp;omega)).mono ?_;rintro e w' ⟨rfl,rfl⟩;rw[HX.out.1])
      exact⟨⟨j+1,by omega,by go_num,by rw[show min (j+1) N=j+1 by omega];go_num⟩,by simp[intOf];omega⟩
     ·have hx':isNameL ((l.drop i).take (j+1))=false:=by rw[hx];simpa using hN
      have HX:=Lib.hid (And.intro hx' he)
      clear hx hx' he
      go_wp2_with (go_at_call 135;rw[HX.out.2];refine(isName_r _ _ (by simp;omega)).mono ?_;rintro e w' ⟨rfl,rfl⟩;rw[HX.out.1])
      exact⟨⟨j+1,by omega,by go_num,by rw[show min (j+1) N=min j N by omega]⟩,by simp[intOf];omega⟩
    ·have k1:decide ((j:Int)+1≤(l.length:Int)-(i:Int))=false:=by simp;omega
     go_wp2
     go_ret
     exact⟨ret_int (by congr 1;omega),rfl⟩
theorem spc_in (c:UInt8):inL c [64,42,35,63,45,36,33]=spcB c:=by
  have:=byte_all (fun c=>inL c [64,42,35,63,45,36,33]==spcB c) (by decide +kernel) c
  simpa using this
theorem rin_spc (c:UInt8) (w:World) :
    Calls Tryz.prog 56 #[.int .u8 (c.toNat:Int),.string ⟨#[64,42,35,63,45,36,33]⟩] w fun e w'=>e=.returned (.bool (spcB c))∧w=w':=by
  rw[←spc_in];exact in_c c [64,42,35,63,45,36,33] w (by decide)
set_option maxHeartbeats 1000000 in
theorem rparam_r (l:List UInt8) (i:Nat) (w:World) (hi:i≤l.length) (hl:l.length≤100000) :
    Calls Tryz.prog 113 #[.string ⟨l.toArray⟩,.int .i64 (i:Int)] w fun e w'=>e=.returned (.int .i64 (parL l i:Int))∧w=w':=by
  have e:=parL_eq l i
  by_cases h0:0<nmL l i
  ·rw[if_pos h0] at e
   rw[e]
   have k1:((nmL l i:Int)==0)=false:=by rw[beq_eq_false_iff_ne];omega
   clear e
   go_enter Tryz.func113,Tryz.ntmps113
   go_wp2_with (go_at_call 129;with_reducible refine(rname_r l i _ hi hl).mono ?_;rintro e w' ⟨rfl,rfl⟩)
   go_ret
   exact⟨rfl,rfl⟩
  ·rw[if_neg h0] at e
   have hz:nmL l i=0:=by omega
   have HZ:=Lib.hid hz
   clear hz h0
   by_cases hil:l.length≤i
   ·rw[List.getElem?_eq_none hil] at e
    rw[e]
    have k2:¬i<l.length:=by omega
    clear e
    go_enter Tryz.func113,Tryz.ntmps113
    go_wp2_with (go_at_call 129;with_reducible refine(rname_r l i _ hi hl).mono ?_;rintro e w' ⟨rfl,rfl⟩;rw[HZ.out])
    go_ret
    exact⟨rfl,rfl⟩
   ·obtain⟨c,hc⟩:∃c,l[i]? = some c:=⟨_,List.getElem?_eq_getElem (by omega)⟩
    rw[hc] at e
    simp only at e
    obtain⟨hb1,hb2⟩:=List.getElem?_eq_some_iff.1 hc
    have k3:(i:Int)<(l.length:Int):=by omega
    have k4:(0:Int)≤(i:Int):=by omega
    have k5:i<l.length:=hb1
    have hSj2:(ByteArray.mk l.toArray)[i]'(show i<l.length from hb1)=c:=hb2
    clear hc hb2 hil
    cases hg:digB c
    ·have q1:(clsOf c==6)=false:=hg
     cases hs:spcB c
     ·rw[if_neg (by simp[hs,hg])] at e
      rw[e]
      have HS:=Lib.hid hs
      clear hg hs e
      go_enter Tryz.func113,Tryz.ntmps113
      go_wp2_with (first
        | (go_at_call 129;with_reducible refine(rname_r l i _ hi hl).mono ?_;rintro e w' ⟨rfl,rfl⟩;rw[HZ.out])
        | (go_at_call 39;refine(class_c c _).mono ?_;rintro e w' ⟨rfl,rfl⟩)
        | (go_at_call 56;refine(rin_spc c _).mono ?_;rintro e w' ⟨rfl,rfl⟩;rw[HS.out]))
      go_ret
      exact⟨rfl,rfl⟩
     ·rw[if_pos (.inl hs)] at e
      rw[e]
      have HS:=Lib.hid hs
      clear hg hs e
      go_enter Tryz.func113,Tryz.ntmps113
      go_wp2_with (first
        | (go_at_call 129;with_reducible refine(rname_r l i _ hi hl).mono ?_;rintro e w' ⟨rfl,rfl⟩;rw[HZ.out])
        | (go_at_call 39;refine(class_c c _).mono ?_;rintro e w' ⟨rfl,rfl⟩)
        | (go_at_call 56;refine(rin_spc c _).mono ?_;rintro e w' ⟨rfl,rfl⟩;rw[HS.out]))
      go_ret
      exact⟨rfl,rfl⟩
    ·have q1:(clsOf c==6)=true:=hg
     rw[if_pos (.inr hg)] at e
     rw[e]
     clear hg e
     go_enter Tryz.func113,Tryz.ntmps113
     go_wp2_with (first
       | (go_at_call 129;with_reducible refine(rname_r l i _ hi hl).mono ?_;rintro e w' ⟨rfl,rfl⟩;rw[HZ.out])
       | (go_at_call 39;refine(class_c c _).mono ?_;rintro e w' ⟨rfl,rfl⟩))
     go_ret
     exact⟨rfl,rfl⟩
end Go.Proofs.YtnclfgkpcpcapaaGreatDoor
