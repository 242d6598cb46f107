/- The reference's signs: quillwortref04.Reserved and Assign, quillwortref12.Sign. -/
import Derived.Test.YtmclohkaiemnaaaGreatDoorMb13
import Derived.Test.YtmclohkaiemnaaaGreatDoorRb9
import Derived.Test.YtmclohkaiemnaaaGreatDoorCls
import Derived.BigQuiet
set_option linter.unusedVariables false
set_option linter.unusedSimpArgs false
set_option maxRecDepth 100000
set_option maxHeartbeats 8000000
namespace Go.Proofs.YtmclohkaiemnaaaGreatDoor
open Go.RowKit
variable {l:List UInt8} {i k:Nat} (t:List UInt8) (fr:Int) (x:Lf) (to:Int) (w:World)
def qS:List UInt8:=[32,33,32,123,32,125,32,99,97,115,101,32,100,111,32,100,111,110,101,32,101,108,105,102,32,101,108,115,101,32,101,115,97,99,32,102,105,32,102,111,114,32,105,102,32,105,110,32,116,104,101,110,32,117,110,116,105,108,32,119,104,105,108,101,32]
def xe (l:List UInt8) (i:Nat):Bool:=(qS.take (i+(l.length+2))).drop i==32::(l++[32])
def C3 (i n:Nat):List UInt8:=(qS.take (i+1+n)).drop (i+1)
theorem Cq:((List.range 64).all fun i=>(List.range 64).all fun n => !(decide (i+(n+2)≤65)&&(xe (C3 i n) i&&(!(vi 32 (C3 i n))&&C3 i n != [])))||nt (C3 i n)!=120)=true:=by decide +kernel
theorem Cr:(xd.all fun q=>q.1 != []&&(!(vi 32 q.1)&&(List.range 64).any fun i=>decide (i+(q.1.length+2)≤65)&&xe q.1 i))=true:=by decide +kernel
theorem Bc (hn:∀q∈xd,l≠q.1):nt l=120:=by
  unfold nt;simp only[hn ([33],33) (by decide),hn ([123],123) (by decide),hn ([125],125) (by decide),hn ([105,102],105) (by decide),hn ([116,104,101,110],116) (by decide),hn ([101,108,105,102],101) (by decide),hn ([101,108,115,101],108) (by decide),hn ([102,105],102) (by decide),hn ([119,104,105,108,101],119) (by decide),hn ([117,110,116,105,108],119) (by decide),hn ([100,111],100) (by decide),hn ([100,111,110,101],103) (by decide),hn ([102,111,114],114) (by decide),hn ([105,110],107) (by decide),hn ([99,97,115,101],99) (by decide),hn ([101,115,97,99],122) (by decide),or_self,bp]
theorem Ie (h1:i+(l.length+2)≤65) (h2:xe l i=true) (h3:vi 32 l=false) (h4:l≠[]):nt l != 120:=by
  have hm:C3 i l.length=l:=by
    unfold xe at h2;rw[bA] at h2;have e1:qS.length=65:=rfl;have h5:((qS.take (i+(l.length+2))).drop i).drop 1=l++[32]:=by rw[h2];rfl
    rw[dN] at h5;have h6:((qS.take (i+(l.length+2))).drop (i+1)).take l.length=l:=by rw[h5,List.take_left]
    unfold C3;rw[List.take_drop,List.take_take,show min (i+1+l.length) (i+(l.length+2))=i+1+l.length from by omega] at h6;exact h6
  have h:=Cq;rw[bV] at h;have h7:=h i (cI.2 (by omega));rw[bV] at h7;have h8:=h7 l.length (cI.2 (by omega));rw[hm,aG h1,h2,h3,bne_iff_ne.2 h4] at h8;simpa using h8
theorem Bz (h:nt l≠120):l≠[]∧vi 32 l=false∧∃i,i+(l.length+2)≤65∧xe l i=true:=by
  obtain⟨q,hq,e⟩:∃q∈xd,l=q.1:=Classical.byContradiction fun hn=>h (Bc fun q hq e=>hn ⟨q,hq,e⟩)
  subst e;have h1:=Cr;rw[bV] at h1;have h2:=h1 q hq;rw[aR,aR,List.any_eq_true] at h2;obtain⟨h3,h4,i,_,h5⟩:=h2;rw[aR] at h5;exact⟨bne_iff_ne.1 h3,by simpa using h4,i,cW h5.1,h5.2⟩
theorem LM (h:∀i,i+(l.length+2)≤65→xe l i=false):(nt l != 120)=false:=by
  by_cases e:nt l=120
  ·rw[e];rfl
  ·obtain⟨_,_,i,h1,h2⟩:=Bz e;rw[h i h1] at h2
   cases h2
theorem zS (l:List UInt8) (w:World) (hl:l.length≤100000):AZ 42 #[.string ⟨l.toArray⟩] w (.bool (nt l != 120)):=by
  by_cases hn:l=[]
  ·subst hn;go_enter Tryz.func42,Tryz.ntmps42;go_wp2;go_ret;exact⟨rfl,rfl⟩
  ·have hp:0<l.length:=List.length_pos_iff.2 hn;have hz:((l.length:Int)==0)=false:=aN (by omega);have c1:∀W,ls 44 #[.int .u8 32,.string ⟨l.toArray⟩] W (.bool (vi 32 l)):=fun W=>Mh 32 l W (by omega)
   cases hi:vi 32 l with
   | true=>
     have hw:(nt l != 120)=false:=by
       by_cases e:nt l=120
       ·rw[e];rfl
       ·rw[(Bz e).2.1] at hi;cases hi
     rw[hw];rw[hi] at c1;have HC:=ac c1;clear c1 hi hw;go_enter Tryz.func42,Tryz.ntmps42;go_wp2_with (go_at_call 44;refine(HC.out _).mono ?_;rintro e w' ⟨rfl,rfl⟩);go_ret;exact⟨rfl,rfl⟩
   | false=>
     rw[hi] at c1;have HC:=ac (ae c1 (ae hi hn));clear c1 hi hn;go_enter Tryz.func42,Tryz.ntmps42;go_wp2_with (go_at_call 44;refine(HC.out.1 _).mono ?_;rintro e w' ⟨rfl,rfl⟩);have hcat:ByteArray.mk #[32]++ByteArray.mk l.toArray++ByteArray.mk #[32]=⟨(32::(l++[32])).toArray⟩:=by
       rw[show ByteArray.mk #[32]=ByteArray.mk [32].toArray from rfl,mF,mF];simp
     try rw[hcat]
     obtain⟨Wd,hWd⟩:∃Wd:List UInt8,Wd=32::(l++[32]):=⟨_,rfl⟩;rw[←hWd];have hWl:Wd.length=l.length+2:=by rw[hWd];simp
     have HW:=ac hWd;clear hcat hWd;go_loopw [4] (fun i wr=>∃k:Nat,k≤66∧i=.int .i64 k∧wr=w∧∀j,j<k→j+(l.length+2)≤65→xe l j=false) (fun i _=>66-(intOf i).toNat)
     case atStart=>exact⟨0,by omega,rfl,rfl,fun j hj=>absurd hj (Nat.not_lt_zero _)⟩
     case round=>
       obtain⟨k,hk,rfl,rfl,hI⟩:=hrel;have u2:(0:Int)≤(k:Int):=by omega
       by_cases hlt:k+(l.length+2)≤65
       ·have t1:decide ((k:Int)+(Wd.length:Int)≤65)=true:=aG (by omega);have t2:(k:Int)+(Wd.length:Int)≤65:=by omega
        obtain⟨b,hb⟩:∃b,b=xe l k:=⟨_,rfl⟩;have t3:(((ByteArray.mk #[32,33,32,123,32,125,32,99,97,115,101,32,100,111,32,100,111,110,101,32,101,108,105,102,32,101,108,115,101,32,101,115,97,99,32,102,105,32,102,111,114,32,105,102,32,105,110,32,116,104,101,110,32,117,110,116,105,108,32,119,104,105,108,101,32]).extract k (k+(l.length+2))).toList==Wd)=b:=by
          rw[show ByteArray.mk #[32,33,32,123,32,125,32,99,97,115,101,32,100,111,32,100,111,110,101,32,101,108,105,102,32,101,108,115,101,32,101,115,97,99,32,102,105,32,102,111,114,32,105,102,32,105,110,32,116,104,101,110,32,117,110,116,105,108,32,119,104,105,108,101,32]=ByteArray.mk qS.toArray from rfl,fq,Lib.toList_data,HW.out,hb];rfl
        have HI:=ac (ae hI hb);clear hI hb
        cases b with
        | true=>
          go_wp2;go_ret;exact⟨by rw[Ie hlt HI.out.2.symm HC.out.2.1 HC.out.2.2];rfl,rfl⟩
        | false=>
          go_wp2;exact⟨⟨k+1,by omega,by go_num,trivial,fun j hj h=>by
            rcases bC j k with h1|h1
            ·exact HI.out.1 j h1 h
            ·obtain rfl:j=k:=by omega
             exact HI.out.2.symm⟩,by simp[intOf]<;>omega⟩
       ·have t1:¬(k:Int)+(Wd.length:Int)≤65:=by omega
        have HI:=ac hI;clear hI;go_wp2;go_ret;exact⟨by rw[LM (fun i hi=>HI.out i (by omega) hi)];rfl,rfl⟩
theorem FR (l:List UInt8):lR l=iC l:=by
  unfold iC
  cases l with
  | nil=>rfl
  | cons c r=>
    have h:=lQ (c::r) (c::r).length (by simp) (au _);rw[dc] at h;have hle:=wA (c::r) 0;have he:=wB (c::r) 0;rw[dO] at he;rw[h,←he,cT];simp only[bT,aR,bne_iff_ne,bA,ne_eq,reduceCtorEq,not_false_eq_true,true_and];omega
def nm (l:List UInt8) (k:Nat):Bool:=l[k]? == some 61&&lR (l.take k)
theorem MM (h1:1≤k) (hk:k<l.length) (h:nm l k=true):kK l=true:=by
  unfold nm at h;rw[aR,bA] at h;obtain⟨h2,h3⟩:=h;have e:=wB l 0;rw[dO] at e;rw[lQ l k h1 (by omega),←e] at h3;have h3:=cW h3;have h4:uZ l 0=k:=by
    rcases bC k (uZ l 0) with h5|h5
    ·have h6:=lQ l (k+1) (by omega) (by omega);rw[←e,aG (by omega)] at h6
     cases l with
     | nil=>simp at hk
     | cons c r=>
       rw[cP] at h6;have h7:(jD c&&(r.take k).all iN)=true:=h6;rw[aR,bV] at h7;obtain⟨k,rfl⟩:∃k',k=k'+1:=⟨k-1,by omega⟩;rw[cD] at h2;have h8:=h7.2 61 (by
         rw[List.mem_iff_getElem?];exact⟨k,by rw[cG,aB (by omega)];exact h2⟩)
       exact absurd h8 (by decide)
    ·omega
  unfold kK;rw[h4,aF,h2];simp only[Option.getD_some,beq_self_eq_true,Bool.and_true,aR,bne_iff_ne];omega
theorem ML (h:∀k,1≤k→k<l.length→nm l k=false):kK l=false:=by
  cases e:kK l with
  | false=>rfl
  | true=>
    unfold kK at e;simp only[aR,bne_iff_ne,bA] at e;have hle:=wA l 0;have hk:uZ l 0<l.length:=by omega
    have h1:=h (uZ l 0) (by omega) hk;unfold nm at h1;have e2:=wB l 0;rw[dO] at e2;rw[lQ l _ (by omega) (by omega),e2,aG (au _),Bool.and_true] at h1;have h3:=e.2;rw[aF,ax hk,Option.getD_some] at h3;rw[←e2,ax hk,h3] at h1;simp at h1
theorem tA (l:List UInt8):∀m k,iG l m k≠0→k≤iG l m k∧iG l m k<k+m
  | 0,_,h=>absurd rfl h
  | m+1,k,h=>by
    unfold iG at h ⊢;by_cases hk:jd k=l
    ·rw[aB hk];omega
    ·rw[aC hk] at h ⊢
     have:=tA l m (k+1) h
     omega
theorem Jm (h1:1≤k) (h2:k≤17):iR (jd k)=k:=by
  have h:((List.range 18).all fun k=>k==0||iR (jd k)==k)=true:=by decide +kernel
  rw[bV] at h;have h3:=h k (cI.2 (by omega));rw[dU,bA,bA] at h3;rcases h3 with h3|h3
  ·omega
  ·exact h3
theorem CZ (h:∀j,1≤j→j<18→jd j≠l):iR l=0:=Classical.byContradiction fun hn=>by
  have h1:=BL hn rfl;have h2:1≤iR l∧iR l<18:=by
    unfold iR at hn ⊢;split at hn
    ·exact absurd rfl hn
    ·rename_i hl;rw[aC hl]
     have:=tA l 17 1 hn
     omega
  exact h _ h2.1 h2.2 h1.symm
theorem Jj (h1:1≤k) (h2:k≤17):(ByteArray.mk #[97,111,121,60,60,60,60,60,60,60,60,60,38,59,124,40,41]).extract (k-1) k=⟨[CX k].toArray⟩:=by
  rw[show ByteArray.mk #[97,111,121,60,60,60,60,60,60,60,60,60,38,59,124,40,41]=ByteArray.mk [97,111,121,60,60,60,60,60,60,60,60,60,38,59,124,40,41].toArray from rfl,fq];have h:((List.range 18).all fun k=>k==0||(([97,111,121,60,60,60,60,60,60,60,60,60,38,59,124,40,41]:List UInt8).take k).drop (k-1)==[CX k])=true:=by decide +kernel
  rw[bV] at h;have h3:=h k (cI.2 (by omega));rw[dU,bA,bA] at h3;rcases h3 with h3|h3
  ·omega
  ·rw[h3]
theorem Eq (hl:t.length≤100000) :
    jJ 20 #[.agg #[.int .i64 4,.string ⟨t.toArray⟩,.int .i64 fr,.int .i64 to]] w (.string ⟨[CX (iR t)].toArray⟩):=by
  go_enter Tryz.func20,Tryz.ntmps20;go_upto_region 1 with fail
  refine li fun W0 hb0 k0 hs0=>?_
  have y0:W0.cell? ⟨w.heap.size,0,none⟩=some (.int .i64 4):=by rw[k0.cell];rfl
  have y1:W0.cell? ⟨w.heap.size,1,none⟩=some (.string ⟨t.toArray⟩):=by rw[k0.cell];rfl
  have HB:=ac hb0;clear hb0 k0 hs0;go_wp2;go_loopw [3] (fun i wr=>∃k:Nat,1≤k∧k≤18∧i=.int .i64 k∧(∃n,wr=W0.drewN n)∧∀j,1≤j→j<k→jd j≠t) (fun i _=>18-(intOf i).toNat)
  case atStart=>exact⟨1,au _,by omega,rfl,⟨0,rfl⟩,fun j h1 h2=>by omega⟩
  case round=>
    obtain⟨k,hk1,hk,rfl,⟨n,rfl⟩,hI⟩:=hrel;have u2:(0:Int)≤(k:Int):=by omega
    have y1':(W0.drewN n).cell? ⟨w.heap.size,1,none⟩=some (.string ⟨t.toArray⟩):=y1;by_cases hlt:k≤17
    ·have u1:(k:Int)≤17:=by omega
     obtain⟨u,hu⟩:∃u,u=jd k:=⟨_,rfl⟩;have c1:∀W,ls 41 #[.int .i64 (k:Int)] W (.string ⟨u.toArray⟩):=fun W=>by rw[hu];exact Lu k hlt W
     by_cases ht:u=t
     ·have t1:(u==t)=true:=by rw[ht];simp
      have HX:=ac (ae c1 (ae ht hu));have u3:(0:Int)≤(k:Int)-1:=by omega
      have u4:(k:Int)-1≤(k:Int):=by omega
      have u5:((k:Int)-1).toNat=k-1:=by omega
      have hex:=Jj hk1 hlt;clear c1 ht hu hI;go_wp2
      go_quiet (first
        | (go_at_call 41;refine(HX.out.1 _).mono ?_;rintro e w' ⟨rfl,rfl⟩;exact⟨rfl,_,rfl⟩))
      go_wp2;go_ret;exact⟨by rw[←HX.out.2.1,HX.out.2.2,Jm hk1 hlt];rfl,dX HB.out _⟩
     ·have t1:(u==t)=false:=aN ht;have HX:=ac (ae c1 (ae ht (ae hu hI)));clear c1 ht hu hI;go_wp2
      go_quiet (first
        | (go_at_call 41;refine(HX.out.1 _).mono ?_;rintro e w' ⟨rfl,rfl⟩;exact⟨rfl,_,rfl⟩))
      go_wp2;refine⟨⟨k+1,by omega,by omega,by go_num,⟨n+nq,by first|rfl|rw[World.drewN_drewN]⟩,fun j h1 h2=>?_⟩,by simp[intOf]<;>omega⟩;rcases bC j k with h4|h4
      ·exact HX.out.2.2.2 j h1 h4
      ·obtain rfl:j=k:=by omega
       rw[←HX.out.2.2.1];exact HX.out.2.1
    ·have u1:¬(k:Int)≤17:=by omega
     have HX:=ac hI;clear hI;go_wp2;go_ret;exact⟨by rw[CZ (fun j h1 h2=>HX.out j h1 (by omega))];rfl,dX HB.out _⟩
theorem zR (hl:t.length≤100000) :
    jJ 20 #[.agg #[.int .i64 6,.string ⟨t.toArray⟩,.int .i64 fr,.int .i64 to]] w (.string ⟨[nt t].toArray⟩):=by
  have c1:∀W,AZ 42 #[.string ⟨t.toArray⟩] W (.bool (nt t != 120)):=fun W=>zS t W hl
  by_cases h:∃q∈xd,t=q.1
  ·obtain⟨q,hq,rfl⟩:=h;clear hl;simp only[xd,bj,dq,or_false] at hq;rcases hq with rfl|rfl|rfl|rfl|rfl|rfl|rfl|rfl|rfl|rfl|rfl|rfl|rfl|rfl|rfl|rfl
   all_goals (
     have c2:∀W,AZ 42 #[.string ⟨_⟩] W (.bool true):=c1;have HC:=ac c2;clear c1 c2;go_enter Tryz.func20,Tryz.ntmps20;go_wp2_with (
       (go_at_call 42;refine(HC.out _).mono ?_;rintro e w1 ⟨rfl,rfl⟩))
     go_ret;exact⟨rfl,(ay _ w).alloc (au _) _⟩)
  ·have e:nt t=120:=Bc fun q hq e=>h ⟨q,hq,e⟩
   rw[e] at c1 ⊢;have c2:∀W,AZ 42 #[.string ⟨t.toArray⟩] W (.bool false):=c1;have HC:=ac c2;clear c1 c2 h e;go_enter Tryz.func20,Tryz.ntmps20;go_wp2_with (
     (go_at_call 42;refine(HC.out _).mono ?_;rintro e w1 ⟨rfl,rfl⟩))
   go_ret;exact⟨rfl,(ay _ w).alloc (au _) _⟩
theorem IQ (hl:x.tx.length≤100000):jJ 20 #[Hz x] w (.string ⟨[sA x].toArray⟩):=by
  obtain⟨kd,t,fr,to⟩:=x;unfold Hz sA;simp only;replace hl:t.length≤100000:=hl;have key:kd=2∨kd=4∨kd=5∨kd=6∨(kd≠2∧kd≠4∧kd≠5∧kd≠6):=by omega
  rcases key with rfl|rfl|rfl|rfl|⟨a,b,c,d⟩
  case' inr.inl=>exact Eq t fr to w hl
  case' inr.inr.inr.inl=>exact zR t fr to w hl
  case' inr.inr.inr.inr=>
    rw[aC a,aC b,aC c,aC d];have a':(kd==2)=false:=aN a;have b':(kd==4)=false:=aN b;have c':(kd==5)=false:=aN c;have d':(kd != 6)=true:=by rw[bne,aN d];rfl
    clear a b c d
  all_goals (
    go_enter Tryz.func20,Tryz.ntmps20;go_wp2_with fail;go_ret;exact⟨rfl,(ay _ w).alloc (au _) _⟩)
end Go.Proofs.YtmclohkaiemnaaaGreatDoor
