/- The reference's signs: quillwortref04.Reserved and Assign, quillwortref12.Sign. -/
import Derived.Test.YtlbfdbinaekjoaaGreatDoorMb13
import Derived.Test.YtlbfdbinaekjoaaGreatDoorRb9
import Derived.BigQuiet
namespace Go.Proofs.YtlbfdbinaekjoaaGreatDoor
open Go.RowKit
set_option linter.unusedVariables false
set_option linter.unusedSimpArgs false
set_option maxRecDepth 100000
def wordsC:List UInt8:=[32,33,32,123,32,125,32,99,97,115,101,32,100,111,32,100,111,110,101,32,101,108,105,102,32,101,108,115,101,32,101,115,97,99,32,102,105,32,102,111,114,32,105,102,32,105,110,32,116,104,101,110,32,117,110,116,105,108,32,119,104,105,108,101,32]
def winW (l:List UInt8) (i:Nat):Bool:=(wordsC.take (i+(l.length+2))).drop i==32::(l++[32])
def midC (i n:Nat):List UInt8:=(wordsC.take (i+1+n)).drop (i+1)
theorem words_win:((List.range 64).all fun i=>(List.range 64).all fun n => !(decide (i+(n+2)≤65)&&(winW (midC i n) i&&(!(inL 32 (midC i n))&&midC i n != [])))||wsgn (midC i n)!=120)=true:=by decide +kernel
theorem words_has:(wrds.all fun q=>q.1 != []&&(!(inL 32 q.1)&&(List.range 64).any fun i=>decide (i+(q.1.length+2)≤65)&&winW q.1 i))=true:=by decide +kernel
theorem wsgn_no {l:List UInt8} (hn:∀q∈wrds,l≠q.1):wsgn l=120:=by
  unfold wsgn
  simp only[hn ([33],33) (by decide),hn ([123],123) (by decide),hn ([125],125) (by decide),hn ([105,102],105) (by decide),hn ([116,104,101,110],116) (by decide),hn ([101,108,105,102],101) (by decide),hn ([101,108,115,101],108) (by decide),hn ([102,105],102) (by decide),hn ([119,104,105,108,101],119) (by decide),hn ([117,110,116,105,108],119) (by decide),hn ([100,111],100) (by decide),hn ([100,111,110,101],103) (by decide),hn ([102,111,114],114) (by decide),hn ([105,110],107) (by decide),hn ([99,97,115,101],99) (by decide),hn ([101,115,97,99],122) (by decide),or_self,if_false]
theorem win_res {l:List UInt8} {i:Nat} (h1:i+(l.length+2)≤65) (h2:winW l i=true) (h3:inL 32 l=false) (h4:l≠[]):wsgn l != 120:=by
  have hm:midC i l.length=l:=by
    unfold winW at h2
    rw[beq_iff_eq] at h2
    have e1:wordsC.length=65:=rfl
    have h5:((wordsC.take (i+(l.length+2))).drop i).drop 1=l++[32]:=by rw[h2];rfl
    rw[List.drop_drop] at h5
    have h6:((wordsC.take (i+(l.length+2))).drop (i+1)).take l.length=l:=by rw[h5,List.take_left]
    unfold midC
    rw[List.take_drop,List.take_take,show min (i+1+l.length) (i+(l.length+2))=i+1+l.length from by omega] at h6
    exact h6
  have h:=words_win
  rw[List.all_eq_true] at h
  have h7:=h i (List.mem_range.2 (by omega))
  rw[List.all_eq_true] at h7
  have h8:=h7 l.length (List.mem_range.2 (by omega))
  rw[hm,decide_eq_true h1,h2,h3,bne_iff_ne.2 h4] at h8
  simpa using h8
theorem res_win {l:List UInt8} (h:wsgn l≠120):l≠[]∧inL 32 l=false∧∃i,i+(l.length+2)≤65∧winW l i=true:=by
  obtain⟨q,hq,e⟩:∃q∈wrds,l=q.1:=Classical.byContradiction fun hn=>h (wsgn_no fun q hq e=>hn ⟨q,hq,e⟩)
  subst e
  have h1:=words_has
  rw[List.all_eq_true] at h1
  have h2:=h1 q hq
  rw[Bool.and_eq_true,Bool.and_eq_true,List.any_eq_true] at h2
  obtain⟨h3,h4,i,_,h5⟩:=h2
  rw[Bool.and_eq_true] at h5
  exact⟨bne_iff_ne.1 h3,by simpa using h4,i,of_decide_eq_true h5.1,h5.2⟩
theorem res_no {l:List UInt8} (h:∀i,i+(l.length+2)≤65→winW l i=false):(wsgn l != 120)=false:=by
  by_cases e:wsgn l=120
  ·rw[e];rfl
  ·obtain⟨_,_,i,h1,h2⟩:=res_win e
   rw[h i h1] at h2
   cases h2
set_option maxHeartbeats 2000000 in
theorem reserved_r (l:List UInt8) (w:World) (hl:l.length≤100000):Calls Tryz.prog 27 #[.string ⟨l.toArray⟩] w fun e w'=>e=.returned (.bool (wsgn l != 120))∧w'=w:=by
  by_cases hn:l=[]
  ·subst hn
   go_enter Tryz.func27,Tryz.ntmps27
   go_wp2
   go_ret
   exact⟨rfl,rfl⟩
  ·have hp:0<l.length:=List.length_pos_iff.2 hn
   have hz:((l.length:Int)==0)=false:=beq_false_of_ne (by omega)
   have c1:∀W,Calls Tryz.prog 45 #[.int .u8 32,.string ⟨l.toArray⟩] W fun e w'=>e=.returned (.bool (inL 32 l))∧W=w':=fun W=>in_c 32 l W (by omega)
   cases hi:inL 32 l with
   | true=>
     have hw:(wsgn l != 120)=false:=by
       by_cases e:wsgn l=120
       ·rw[e];rfl
       ·rw[(res_win e).2.1] at hi;cases hi
     rw[hw]
     rw[hi] at c1
     have HC:=Lib.hid c1
     clear c1 hi hw
     go_enter Tryz.func27,Tryz.ntmps27
     go_wp2_with (go_at_call 45;refine(HC.out _).mono ?_;rintro e w' ⟨rfl,rfl⟩)
     go_ret
     exact⟨rfl,rfl⟩
   | false=>
     rw[hi] at c1
     have HC:=Lib.hid (And.intro c1 (And.intro hi hn))
     clear c1 hi hn
     go_enter Tryz.func27,Tryz.ntmps27
     go_wp2_with (go_at_call 45;refine(HC.out.1 _).mono ?_;rintro e w' ⟨rfl,rfl⟩)
     have hcat:ByteArray.mk #[32]++ByteArray.mk l.toArray++ByteArray.mk #[32]=⟨(32::(l++[32])).toArray⟩:=by
       rw[show ByteArray.mk #[32]=ByteArray.mk [32].toArray from rfl,ba_append,ba_append]
       simp
     try rw[hcat]
     obtain⟨Wd,hWd⟩:∃Wd:List UInt8,Wd=32::(l++[32]):=⟨_,rfl⟩
     rw[←hWd]
     have hWl:Wd.length=l.length+2:=by rw[hWd];simp
     have HW:=Lib.hid hWd
     clear hcat hWd
     go_loopw [4] (fun i wr=>∃k:Nat,k≤66∧i=.int .i64 k∧wr=w∧∀j,j<k→j+(l.length+2)≤65→winW l j=false) (fun i _=>66-(intOf i).toNat)
     case atStart=>exact⟨0,by omega,rfl,rfl,fun j hj=>absurd hj (Nat.not_lt_zero _)⟩
     case round=>
       obtain⟨k,hk,rfl,rfl,hI⟩:=hrel
       have u2:(0:Int)≤(k:Int):=by omega
       by_cases hlt:k+(l.length+2)≤65
       ·have t1:decide ((k:Int)+(Wd.length:Int)≤65)=true:=decide_eq_true (by omega)
        have t2:(k:Int)+(Wd.length:Int)≤65:=by omega
        obtain⟨b,hb⟩:∃b,b=winW l k:=⟨_,rfl⟩
        have t3:(((ByteArray.mk #[32,33,32,123,32,125,32,99,97,115,101,32,100,111,32,100,111,110,101,32,101,108,105,102,32,101,108,115,101,32,101,115,97,99,32,102,105,32,102,111,114,32,105,102,32,105,110,32,116,104,101,110,32,117,110,116,105,108,32,119,104,105,108,101,32]).extract k (k+(l.length+2))).toList==Wd)=b:=by
          rw[show ByteArray.mk #[32,33,32,123,32,125,32,99,97,115,101,32,100,111,32,100,111,110,101,32,101,108,105,102,32,101,108,115,101,32,101,115,97,99,32,102,105,32,102,111,114,32,105,102,32,105,110,32,116,104,101,110,32,117,110,116,105,108,32,119,104,105,108,101,32]=ByteArray.mk wordsC.toArray from rfl,ba_extract,Lib.toList_data,HW.out,hb]
          rfl
        have HI:=Lib.hid (And.intro hI hb)
        clear hI hb
        cases b with
        | true=>
          go_wp2
          go_ret
          exact⟨by rw[win_res hlt HI.out.2.symm HC.out.2.1 HC.out.2.2];rfl,rfl⟩
        | false=>
          go_wp2
          exact⟨⟨k+1,by omega,by go_num,trivial,fun j hj h=>by
            rcases Nat.lt_or_ge j k with h1|h1
            ·exact HI.out.1 j h1 h
            ·obtain rfl:j=k:=by omega
             exact HI.out.2.symm⟩,by simp[intOf]<;>omega⟩
       ·have t1:¬(k:Int)+(Wd.length:Int)≤65:=by omega
        have HI:=Lib.hid hI
        clear hI
        go_wp2
        go_ret
        exact⟨by rw[res_no (fun i hi=>HI.out i (by omega) hi)];rfl,rfl⟩
theorem isName_T (l:List UInt8):isNameL l=nameT l:=by
  unfold nameT
  cases l with
  | nil=>rfl
  | cons c r=>
    have h:=isName_take (c::r) (c::r).length (by simp) (Nat.le_refl _)
    rw[List.take_length] at h
    have hle:=nmL_le (c::r) 0
    have he:=nmL_eq (c::r) 0
    rw[List.drop_zero] at he
    rw[h,←he,Bool.eq_iff_iff]
    simp only[decide_eq_true_eq,Bool.and_eq_true,bne_iff_ne,beq_iff_eq,ne_eq,reduceCtorEq,not_false_eq_true,true_and]
    omega
def asgN (l:List UInt8) (k:Nat):Bool:=l[k]? == some 61&&isNameL (l.take k)
theorem asg_at {l:List UInt8} {k:Nat} (h1:1≤k) (hk:k<l.length) (h:asgN l k=true):asgT l=true:=by
  unfold asgN at h
  rw[Bool.and_eq_true,beq_iff_eq] at h
  obtain⟨h2,h3⟩:=h
  have e:=nmL_eq l 0
  rw[List.drop_zero] at e
  rw[isName_take l k h1 (by omega),←e] at h3
  have h3:=of_decide_eq_true h3
  have h4:nmL l 0=k:=by
    rcases Nat.lt_or_ge k (nmL l 0) with h5|h5
    ·have h6:=isName_take l (k+1) (by omega) (by omega)
     rw[←e,decide_eq_true (by omega)] at h6
     cases l with
     | nil=>simp at hk
     | cons c r=>
       rw[List.take_succ_cons] at h6
       have h7:(letB c&&(r.take k).all nameB)=true:=h6
       rw[Bool.and_eq_true,List.all_eq_true] at h7
       obtain⟨k,rfl⟩:∃k',k=k'+1:=⟨k-1,by omega⟩
       rw[List.getElem?_cons_succ] at h2
       have h8:=h7.2 61 (by
         rw[List.mem_iff_getElem?]
         exact⟨k,by rw[List.getElem?_take,if_pos (by omega)];exact h2⟩)
       exact absurd h8 (by decide)
    ·omega
  unfold asgT
  rw[h4,List.getD_eq_getElem?_getD,h2]
  simp only[Option.getD_some,beq_self_eq_true,Bool.and_true,Bool.and_eq_true,bne_iff_ne]
  omega
theorem asg_no {l:List UInt8} (h:∀k,1≤k→k<l.length→asgN l k=false):asgT l=false:=by
  cases e:asgT l with
  | false=>rfl
  | true=>
    unfold asgT at e
    simp only[Bool.and_eq_true,bne_iff_ne,beq_iff_eq] at e
    have hle:=nmL_le l 0
    have hk:nmL l 0<l.length:=by omega
    have h1:=h (nmL l 0) (by omega) hk
    unfold asgN at h1
    have e2:=nmL_eq l 0
    rw[List.drop_zero] at e2
    rw[isName_take l _ (by omega) (by omega),e2,decide_eq_true (Nat.le_refl _),Bool.and_true] at h1
    have h3:=e.2
    rw[List.getD_eq_getElem?_getD,List.getElem?_eq_getElem hk,Option.getD_some] at h3
    rw[←e2,List.getElem?_eq_getElem hk,h3] at h1
    simp at h1
end Go.Proofs.YtlbfdbinaekjoaaGreatDoor
namespace Go.Proofs.YtlbfdbinaekjoaaGreatDoor
open Go.RowKit
set_option linter.unusedVariables false
set_option linter.unusedSimpArgs false
set_option maxRecDepth 100000
theorem opFrom_rng (l:List UInt8):∀m k,opFrom l m k≠0→k≤opFrom l m k∧opFrom l m k<k+m
  | 0,_,h=>absurd rfl h
  | m+1,k,h=>by
    unfold opFrom at h ⊢
    by_cases hk:opTx k=l
    ·rw[if_pos hk];omega
    ·rw[if_neg hk] at h ⊢
     have:=opFrom_rng l m (k+1) h
     omega
theorem opOf_op {k:Nat} (h1:1≤k) (h2:k≤17):opOf (opTx k)=k:=by
  have h:((List.range 18).all fun k=>k==0||opOf (opTx k)==k)=true:=by decide +kernel
  rw[List.all_eq_true] at h
  have h3:=h k (List.mem_range.2 (by omega))
  rw[Bool.or_eq_true,beq_iff_eq,beq_iff_eq] at h3
  rcases h3 with h3|h3
  ·omega
  ·exact h3
theorem opOf_none {l:List UInt8} (h:∀j,1≤j→j<18→opTx j≠l):opOf l=0:=Classical.byContradiction fun hn=>by
  have h1:=opOf_tx hn rfl
  have h2:1≤opOf l∧opOf l<18:=by
    unfold opOf at hn ⊢
    split at hn
    ·exact absurd rfl hn
    ·rename_i hl
     rw[if_neg hl]
     have:=opFrom_rng l 17 1 hn
     omega
  exact h _ h2.1 h2.2 h1.symm
theorem osgn_at {k:Nat} (h1:1≤k) (h2:k≤17):(ByteArray.mk #[97,111,121,60,60,60,60,60,60,60,60,60,38,59,124,40,41]).extract (k-1) k=⟨[osgn k].toArray⟩:=by
  rw[show ByteArray.mk #[97,111,121,60,60,60,60,60,60,60,60,60,38,59,124,40,41]=ByteArray.mk [97,111,121,60,60,60,60,60,60,60,60,60,38,59,124,40,41].toArray from rfl,ba_extract]
  have h:((List.range 18).all fun k=>k==0||(([97,111,121,60,60,60,60,60,60,60,60,60,38,59,124,40,41]:List UInt8).take k).drop (k-1)==[osgn k])=true:=by decide +kernel
  rw[List.all_eq_true] at h
  have h3:=h k (List.mem_range.2 (by omega))
  rw[Bool.or_eq_true,beq_iff_eq,beq_iff_eq] at h3
  rcases h3 with h3|h3
  ·omega
  ·rw[h3]
set_option maxHeartbeats 2000000 in
theorem rsign_op (t:List UInt8) (fr to:Int) (w:World) (hl:t.length≤100000) :
    Calls Tryz.prog 28 #[.agg #[.int .i64 4,.string ⟨t.toArray⟩,.int .i64 fr,.int .i64 to]] w fun e w'=>e=.returned (.string ⟨[osgn (opOf t)].toArray⟩)∧Below w.heap.size w w':=by
  go_enter Tryz.func28,Tryz.ntmps28
  go_upto_region 1 with fail
  refine gen1 fun W0 hb0 k0 hs0=>?_
  have y0:W0.cell? ⟨w.heap.size,0,none⟩=some (.int .i64 4):=by rw[k0.cell];rfl
  have y1:W0.cell? ⟨w.heap.size,1,none⟩=some (.string ⟨t.toArray⟩):=by rw[k0.cell];rfl
  have HB:=Lib.hid hb0
  clear hb0 k0 hs0
  go_wp2
  go_loopw [3] (fun i wr=>∃k:Nat,1≤k∧k≤18∧i=.int .i64 k∧(∃n,wr=W0.drewN n)∧∀j,1≤j→j<k→opTx j≠t) (fun i _=>18-(intOf i).toNat)
  case atStart=>exact⟨1,Nat.le_refl _,by omega,rfl,⟨0,rfl⟩,fun j h1 h2=>by omega⟩
  case round=>
    obtain⟨k,hk1,hk,rfl,⟨n,rfl⟩,hI⟩:=hrel
    have u2:(0:Int)≤(k:Int):=by omega
    have y1':(W0.drewN n).cell? ⟨w.heap.size,1,none⟩=some (.string ⟨t.toArray⟩):=y1
    by_cases hlt:k≤17
    ·have u1:(k:Int)≤17:=by omega
     obtain⟨u,hu⟩:∃u,u=opTx k:=⟨_,rfl⟩
     have c1:∀W,Calls Tryz.prog 46 #[.int .i64 (k:Int)] W fun e w'=>e=.returned (.string ⟨u.toArray⟩)∧W=w':=fun W=>by rw[hu];exact text_r k hlt W
     by_cases ht:u=t
     ·have t1:(u==t)=true:=by rw[ht];simp
      have HX:=Lib.hid (And.intro c1 (And.intro ht hu))
      have u3:(0:Int)≤(k:Int)-1:=by omega
      have u4:(k:Int)-1≤(k:Int):=by omega
      have u5:((k:Int)-1).toNat=k-1:=by omega
      have hex:=osgn_at hk1 hlt
      clear c1 ht hu hI
      go_wp2
      go_quiet (first
        | (go_at_call 46
           refine(HX.out.1 _).mono ?_
           rintro e w' ⟨rfl,rfl⟩
           exact⟨rfl,_,rfl⟩))
      go_wp2
      go_ret
      exact⟨by rw[←HX.out.2.1,HX.out.2.2,opOf_op hk1 hlt];rfl,below_drewN' HB.out _⟩
     ·have t1:(u==t)=false:=beq_false_of_ne ht
      have HX:=Lib.hid (And.intro c1 (And.intro ht (And.intro hu hI)))
      clear c1 ht hu hI
      go_wp2
      go_quiet (first
        | (go_at_call 46
           refine(HX.out.1 _).mono ?_
           rintro e w' ⟨rfl,rfl⟩
           exact⟨rfl,_,rfl⟩))
      go_wp2
      refine⟨⟨k+1,by omega,by omega,by go_num,⟨n+nq,by first|rfl|rw[World.drewN_drewN]⟩,fun j h1 h2=>?_⟩,by simp[intOf]<;>omega⟩
      rcases Nat.lt_or_ge j k with h4|h4
      ·exact HX.out.2.2.2 j h1 h4
      ·obtain rfl:j=k:=by omega
       rw[←HX.out.2.2.1]
       exact HX.out.2.1
    ·have u1:¬(k:Int)≤17:=by omega
     have HX:=Lib.hid hI
     clear hI
     go_wp2
     go_ret
     exact⟨by rw[opOf_none (fun j h1 h2=>HX.out j h1 (by omega))];rfl,below_drewN' HB.out _⟩
set_option maxHeartbeats 2000000 in
theorem rsign_word (t:List UInt8) (fr to:Int) (w:World) (hl:t.length≤100000) :
    Calls Tryz.prog 28 #[.agg #[.int .i64 6,.string ⟨t.toArray⟩,.int .i64 fr,.int .i64 to]] w fun e w'=>e=.returned (.string ⟨[wsgn t].toArray⟩)∧Below w.heap.size w w':=by
  have c1:∀W,Calls Tryz.prog 27 #[.string ⟨t.toArray⟩] W fun e w'=>e=.returned (.bool (wsgn t != 120))∧w'=W:=fun W=>reserved_r t W hl
  by_cases h:∃q∈wrds,t=q.1
  ·obtain⟨q,hq,rfl⟩:=h
   clear hl
   simp only[wrds,List.mem_cons,List.not_mem_nil,or_false] at hq
   rcases hq with rfl|rfl|rfl|rfl|rfl|rfl|rfl|rfl|rfl|rfl|rfl|rfl|rfl|rfl|rfl|rfl
   all_goals (
     have c2:∀W,Calls Tryz.prog 27 #[.string ⟨_⟩] W fun e w'=>e=.returned (.bool true)∧w'=W:=c1
     have HC:=Lib.hid c2
     clear c1 c2
     go_enter Tryz.func28,Tryz.ntmps28
     go_wp2_with (
       (go_at_call 27
        refine(HC.out _).mono ?_
        rintro e w1 ⟨rfl,rfl⟩))
     go_ret
     exact⟨rfl,(Below.refl _ w).alloc (Nat.le_refl _) _⟩)
  ·have e:wsgn t=120:=wsgn_no fun q hq e=>h ⟨q,hq,e⟩
   rw[e] at c1 ⊢
   have c2:∀W,Calls Tryz.prog 27 #[.string ⟨t.toArray⟩] W fun e w'=>e=.returned (.bool false)∧w'=W:=c1
   have HC:=Lib.hid c2
   clear c1 c2 h e
   go_enter Tryz.func28,Tryz.ntmps28
   go_wp2_with (
     (go_at_call 27
      refine(HC.out _).mono ?_
      rintro e w1 ⟨rfl,rfl⟩))
   go_ret
   exact⟨rfl,(Below.refl _ w).alloc (Nat.le_refl _) _⟩
set_option maxHeartbeats 2000000 in
theorem rsign_m (x:Lf) (w:World) (hl:x.tx.length≤100000):Calls Tryz.prog 28 #[lfv x] w fun e w'=>e=.returned (.string ⟨[sgnL x].toArray⟩)∧Below w.heap.size w w':=by
  obtain⟨kd,t,fr,to⟩:=x
  unfold lfv sgnL
  simp only
  replace hl:t.length≤100000:=hl
  have key:kd=2∨kd=4∨kd=5∨kd=6∨(kd≠2∧kd≠4∧kd≠5∧kd≠6):=by omega
  rcases key with rfl|rfl|rfl|rfl|⟨a,b,c,d⟩
  case' inr.inl=>exact rsign_op t fr to w hl
  case' inr.inr.inr.inl=>exact rsign_word t fr to w hl
  case' inr.inr.inr.inr=>
    rw[if_neg a,if_neg b,if_neg c,if_neg d]
    have a':(kd==2)=false:=beq_false_of_ne a
    have b':(kd==4)=false:=beq_false_of_ne b
    have c':(kd==5)=false:=beq_false_of_ne c
    have d':(kd != 6)=true:=by rw[bne,beq_false_of_ne d];rfl
    clear a b c d
  all_goals (
    go_enter Tryz.func28,Tryz.ntmps28
    go_wp2_with fail
    go_ret
    exact⟨rfl,(Below.refl _ w).alloc (Nat.le_refl _) _⟩)
end Go.Proofs.YtlbfdbinaekjoaaGreatDoor
