/- quillwortref09.Here: where a document ends, as the reference finds it. -/
import Derived.Test.YtcagfamdoaoimaaGreatDoorLa9
import Derived.Test.YtcagfamdoaoimaaGreatDoorMem
import Derived.Lib.Strings
set_option linter.unusedVariables false
set_option linter.unusedSimpArgs false
set_option maxRecDepth 100000
set_option maxHeartbeats 8000000
namespace Go.Proofs.YtcagfamdoaoimaaGreatDoor
open Go.RowKit
variable (l t:List UInt8) (m f x k:Nat) (u:List UInt8) (w:World) (i:Nat)
theorem uc (hf:f≤i) (h1:∀j,f≤j→j<i→(l.getD j 0).toNat≠10) (h2:i<l.length) (h3:(l.getD i 0).toNat=10):gD l f=i:=by
  obtain⟨k,rfl⟩:∃k,i=f+k:=⟨i-f,by omega⟩;rw[ud,om _ l f k (fun j hj=>by simpa using h1 (f+j) (by omega) (by omega)) h2 (by simpa using h3)]
theorem vH (hf:f≤l.length) (h1:∀j,f≤j→j<l.length→(l.getD j 0).toNat≠10):gD l f=l.length:=by
  have h2:=(nP l f hf).2;rcases bZ (gD l f) l.length with h|h
  ·rw[ud] at h
   have:=oo (fun c:UInt8=>c.toNat != 10) l f h
   exact absurd (by simpa using this) (h1 _ (by omega) h)
  ·omega
theorem xO (h:m<i) (hi:i≤l.length):sub l m i=l.getD m 0::sub l (m+1) i:=by
  unfold sub;rw[cV (by rw[cm];omega),List.getElem_take,aE,ax (by omega)];rfl
theorem sub_self:sub l i i=[]:=by unfold sub;rw[List.drop_eq_nil_of_le];rw[cm];omega
theorem Eh (h:m<i) (hi:i≤l.length) (h9:(l.getD m 0).toNat=9):jR true (sub l m i)=jR true (sub l (m+1) i):=by
  rw[xO l m i h hi];show List.dropWhile _ _=_;rw[List.dropWhile_cons_of_pos (by simpa using h9)];rfl
theorem Eg (h:m<i) (hi:i≤l.length) (h9:(l.getD m 0).toNat≠9):jR true (sub l m i)=sub l m i:=by
  rw[xO l m i h hi];show List.dropWhile _ _=_;rw[List.dropWhile_cons_of_neg (by simpa using h9)]
theorem jz (h:i<l.length):∃hh:i<(ByteArray.mk l.toArray).size,(ByteArray.mk l.toArray)[i]'hh=l.getD i 0:=⟨h,by rw[aE,ax h];rfl⟩
theorem BY (t:Bool) (x:Nat) (w:World) (hl:l.length≤100000) (hx:x≤l.length) :
    jL 104 #[.string ⟨l.toArray⟩,.int .i64 (x:Int),.agg #[.string ⟨u.toArray⟩,.bool t]] w (.tuple #[.int .i64 ((gm l x u t).1:Int),.int .i64 (if (gm l x u t).2=true then 1 else 0)]):=by
  obtain⟨H,hH⟩:∃H,H=gm l x u t:=⟨_,rfl⟩;rw[←hH];have hno:H.2=false→H.1=l.length:=by
    intro h;rw[hH] at h ⊢;by_cases hlt:x<l.length
    ·exact(zh l u t _ x rfl hlt).2.2 h
    ·rw[kh,aB hlt];show x=_;omega
  obtain⟨H1,H2⟩:=H;obtain⟨V,hV⟩:∃V:Int,V=if H2=true then 1 else 0:=⟨_,rfl⟩;show Calls _ _ _ _ fun e w'=>e=.returned (.tuple #[.int .i64 (H1:Int),.int .i64 (if H2=true then 1 else 0)])∧Below w.heap.size w w'
  rw[←hV];have HH:=aa (ac hH (ac hno hV));clear hH hno hV;go_enter Tryz.func104,Tryz.ntmps104;go_wp2;obtain⟨w1,hw1⟩:∃w1,w1=w.alloc (.cells #[.string ⟨u.toArray⟩,.bool t] 124):=⟨_,rfl⟩;have hb1:Below w.heap.size w w1:=by rw[hw1];exact aY (aC _ _) (au _) _
  have hk:Bk w1 w.heap.size 124 #[.string ⟨u.toArray⟩,.bool t]:=by rw[hw1];exact Bk.new _ _ _
  rw[←hw1];have HW:=aa (ac hb1 hk);clear hw1 hb1 hk;go_loopw [8,9,10] (fun s8 s9 s10 wr=>∃f i:Nat,s8=.int .i64 f∧s9=.int .i64 i∧((f≤i∧i≤l.length∧(∀j,f≤j→j<i→(l.getD j 0).toNat≠10)∧gm l f u t=(H1,H2))∨(i=l.length+1∧(H1,H2)=(l.length,false)))∧Below w1.heap.size w1 wr) (fun s8 s9 s10 _=>l.length+2-(intOf s9).toNat)
  case atStart=>exact⟨x,x,rfl,rfl,.inl ⟨au _,hx,fun j h1 h2=>by omega,HH.out.1.symm⟩,aC _ _⟩
  case round=>
    obtain⟨f,i,rfl,rfl,hcase,hb⟩:=hrel;have hbw:Below w.heap.size w wr:=HW.out.1.trans (hb.mono HW.out.1.size);rcases hcase with ⟨hfi,hil,hnl,hhere⟩|⟨rfl,hend⟩
    ·have u0:(i:Int)≤(l.length:Int):=by omega
     by_cases hmid:i<l.length∧(l.getD i 0).toNat≠10
     ·obtain⟨hlt,h10⟩:=hmid;obtain⟨g1,g2⟩:=jz l i hlt;have hnl2:∀j,f≤j→j<i+1→(l.getD j 0).toNat≠10:=fun j h1 h2=>by
        by_cases e:j=i
        ·subst e;exact h10
        ·exact hnl j h1 (by omega)
      have u1:(i:Int)<(l.length:Int):=by omega
      have u2:(0:Int)≤(i:Int):=by omega
      obtain⟨b,hbyte⟩:∃b,b=l.getD i 0:=⟨_,rfl⟩;rw[←hbyte] at g2 h10;have u3:((b.toNat:Int)==10)=false:=by rw[az];omega
      have u4:((b.toNat:Int)!=10)=true:=by rw[bne_iff_ne];omega
      have HP:=aa (ac hhere (ac hb hnl2));clear hhere hb hnl hnl2 hbw hbyte;go_wp2_with fail;exact⟨⟨f,i+1,rfl,by go_num,.inl ⟨by omega,by omega,HP.out.2.2,HP.out.1⟩,HP.out.2.1⟩,by simp[intOf]<;>omega⟩
     ·by_cases hend:i=l.length∧f=i
      ·obtain⟨hi,hf⟩:=hend;subst hf;subst hi;have h0:gm l l.length u t=(l.length,false):=by rw[kh,aB (by omega)]
       have HP:=aa (ac (hhere.symm.trans h0) hb);clear hhere hb hnl hbw h0;go_wp2_with fail;exact⟨⟨l.length,l.length+1,rfl,by go_num,.inr ⟨rfl,HP.out.1⟩,HP.out.2⟩,by simp[intOf]<;>omega⟩
      ·
       have hN:gD l f=i:=by
         by_cases hlt:i<l.length
         ·exact uc l f i hfi hnl hlt (by by_cases h:(l.getD i 0).toNat=10;exact h;exact absurd ⟨hlt,h⟩ hmid)
         ·obtain rfl:i=l.length:=by omega
          exact vH l f hfi hnl
       have hfl:f<l.length:=by
         by_cases hlt:i<l.length
         ·omega
         ·have:¬(f=i):=fun h=>hend ⟨by omega,h⟩
          omega
       have hE:ke l f=if i<l.length then i+1 else i:=by unfold ke;rw[hN]
       have hst:(H1,H2)=if jR t (sub l f i)=u then (if i<l.length then i+1 else i,true) else gm l (if i<l.length then i+1 else i) u t:=by rw[←hhere,kh,aD hfl,hN,hE]
       have hyes:jR t (sub l f i)=u→H1=(if i<l.length then i+1 else i)∧H2=true:=by
         intro h;rw[aD h] at hst;injection hst with h1 h2
         exact⟨h1,h2⟩
       have hno2:jR t (sub l f i)≠u→(i<l.length→gm l (i+1) u t=(H1,H2))∧(¬i<l.length→(H1,H2)=(l.length,false)):=by
         intro h;rw[aB h] at hst;refine⟨fun h2=>by rw[aD h2] at hst;exact hst.symm,fun h2=>?_⟩;rw[aB h2,kh,aB h2] at hst;rw[hst,show i=l.length by omega]
       have hg:((i:Int)<(l.length:Int)∧(∃(b:UInt8) (g:i<(ByteArray.mk l.toArray).size),(ByteArray.mk l.toArray)[i]'g=b∧((b.toNat:Int)==10)=true∧((b.toNat:Int)!=10)=false)∧((i:Int)==(l.length:Int))=false)∨(¬(i:Int)<(l.length:Int)∧((i:Int)==(l.length:Int))=true∧((f:Int)==(i:Int))=false):=by
         by_cases hlt:i<l.length
         ·obtain⟨g1,g2⟩:=jz l i hlt;have h10:(l.getD i 0).toNat=10:=by
            by_cases h:(l.getD i 0).toNat=10
            ·exact h
            ·exact absurd ⟨hlt,h⟩ hmid
          exact .inl ⟨by omega,⟨_,g1,g2,by rw[aR];omega,by rw[bne_eq_false_iff_eq];omega⟩,by rw[az];omega⟩
         ·refine .inr ⟨by omega,by rw[aR];omega,by rw[az];intro h;exact hend ⟨by omega,by omega⟩⟩
       have HQ:=aa (ac hyes (ac hno2 hb));have b0:wr.cell? ⟨w.heap.size,0,none⟩=some (.string ⟨u.toArray⟩):=by rw[(HW.out.2.below hb HW.out.2.lt).cell];rfl
       have b1:wr.cell? ⟨w.heap.size,1,none⟩=some (.bool t):=by rw[(HW.out.2.below hb HW.out.2.lt).cell];rfl
       clear hyes hno2 hst hE hN hhere hnl hb hbw hmid hend;have hlw:w.heap.size<wr.heap.size:=by have:=HW.out.2.lt;have:=HQ.out.2.2.size;omega
       rcases hg with ⟨v0,⟨b,g1,g2,v1,v2⟩,v3⟩|⟨v0,v3,v4⟩
       all_goals (
         have HV:=aa v0;go_wp2_with fail;obtain⟨wo,rfl⟩:∃wo:World,wo=wr:=⟨_,rfl⟩;go_loopw [10] (fun s10 wk=>∃m:Nat,s10=.int .i64 m∧f≤m∧m≤i∧jR t (sub l f i)=jR t (sub l m i)∧Below wo.heap.size wo wk) (fun s10 _=>i-(intOf s10).toNat)
         case atStart=>exact⟨f,rfl,au _,hfi,rfl,aC _ _⟩
         case round=>
           obtain⟨m,rfl,hfm,hmi,htab,hbk⟩:=hrel;have c0:wr.cell? ⟨w.heap.size,0,none⟩=some (.string ⟨u.toArray⟩):=((KO hbk).1 _ _ hlw).trans b0;have c1:wr.cell? ⟨w.heap.size,1,none⟩=some (.bool t):=((KO hbk).1 _ _ hlw).trans b1;have HK:=aa (ac htab hbk);clear b0 b1 hbk htab;by_cases hgo:t=true∧m<i∧(l.getD m 0).toNat=9
           ·obtain⟨rfl,hlt,h9⟩:=hgo;obtain⟨q1,q2⟩:=jz l m (by omega);have htn:=Eh l m i hlt (by omega) h9;obtain⟨cc,hcc⟩:∃cc,cc=l.getD m 0:=⟨_,rfl⟩;rw[←hcc] at q2 h9;have p1:(m:Int)<(i:Int):=by omega
            have p2:(0:Int)≤(m:Int):=by omega
            have p3:(m:Int)<(l.length:Int):=by omega
            have p4:((cc.toNat:Int)==9)=true:=by rw[aR];omega
            have HT:=aa htn;clear htn hcc;go_wp2_with fail;exact⟨⟨m+1,by go_num,by omega,by omega,HK.out.1.trans HT.out,HK.out.2⟩,by simp[intOf]<;>omega⟩
           ·have hS:jR t (sub l f i)=sub l m i:=by
              rw[HK.out.1]
              cases t
              ·rfl
              ·by_cases hlt:m<i
               ·exact Eg l m i hlt (by omega) (fun h=>hgo ⟨rfl,hlt,h⟩)
               ·rw[show m=i by omega,sub_self];rfl
            have hways:t=false∨(t=true∧¬(m:Int)<(i:Int))∨(t=true∧(m:Int)<(i:Int)∧(m:Int)<(l.length:Int)∧∃(cc:UInt8) (g:m<(ByteArray.mk l.toArray).size),(ByteArray.mk l.toArray)[m]'g=cc∧((cc.toNat:Int)==9)=false):=by
              cases t
              ·exact .inl rfl
              ·by_cases hlt:m<i
               ·obtain⟨q1,q2⟩:=jz l m (by omega);exact .inr (.inr ⟨rfl,by omega,by omega,_,q1,q2,by rw[az];intro h;exact hgo ⟨rfl,hlt,by omega⟩⟩)
               ·exact .inr (.inl ⟨rfl,by omega⟩)
            have p2:(0:Int)≤(m:Int):=by omega
            have p5:(m:Int)≤(i:Int):=by omega
            have hlist:((ByteArray.mk l.toArray).extract m i).toList=sub l m i:=by rw[dX,Lib.toList_data];rfl
            have hq:∀bb:Bool,(sub l m i==u)=bb→(((ByteArray.mk l.toArray).extract m i).toList==u)=bb∧(bb=true→H1=(if i<l.length then i+1 else i)∧H2=true)∧(bb=false→(i<l.length→gm l (i+1) u t=(H1,H2))∧(¬i<l.length→(H1,H2)=(l.length,false))):=by
              intro bb h;refine⟨by rw[hlist,h],fun h2=>HQ.out.1 (by rw[hS];rw[h2] at h;simpa using h),fun h2=>HQ.out.2.1 (by rw[hS];rw[h2] at h;simpa using h)⟩
            have HB:=aa (HQ.out.2.2.trans (HK.out.2.mono HQ.out.2.2.size));clear hS hlist hgo
            cases hbb:(sub l m i==u);all_goals (
              obtain⟨r1,r2,r3⟩:=hq _ hbb;have HR:=aa (ac r2 r3);clear r2 r3 hbb hq;rcases hways with rfl|⟨rfl,p1⟩|⟨rfl,p1,p3,cc,q1,q2,q3⟩
              all_goals (
                go_wp2_with fail;go_quiet (fail);go_wp2_with fail
                first
                  | exact⟨⟨i+1,i+1,by go_num,by go_num,by
                      by_cases hi:i<l.length
                      ·exact .inl ⟨au _,by omega,fun j h1 h2=>by omega,(HR.out.2 (by first|trivial|rfl)).1 hi⟩
                      ·exact .inr ⟨by omega,(HR.out.2 (by first|trivial|rfl)).2 hi⟩,dN HB.out _⟩,by simp[intOf]<;>omega⟩
                  | exact aK (v:=.tuple #[.int .i64 ((i:Int)+1),.int .i64 1]) (by simp[results,Tryz.results104,go_sem]) rfl ⟨by
                      have h1:=(HR.out.1 (by first|trivial|rfl)).1;have h2:=(HR.out.1 (by first|trivial|rfl)).2;rw[aD (by have:=HV.out;omega)] at h1;rw[HH.out.2.2,h1,h2];rfl,dN (HW.out.1.trans (HB.out.mono HW.out.1.size)) _⟩
                  | exact aK (v:=.tuple #[.int .i64 (i:Int),.int .i64 1]) (by simp[results,Tryz.results104,go_sem]) rfl ⟨by
                      have h1:=(HR.out.1 (by first|trivial|rfl)).1;have h2:=(HR.out.1 (by first|trivial|rfl)).2;rw[aB (by have:=HV.out;omega)] at h1;rw[HH.out.2.2,h1,h2];rfl,dN (HW.out.1.trans (HB.out.mono HW.out.1.size)) _⟩)))
    ·have u0:¬((l.length+1:Nat):Int)≤(l.length:Int):=by omega
     have u1:¬(l.length:Int)+1≤(l.length:Int):=by omega
     injection hend with h1 h2
     subst h1;have hv0:V=0:=by rw[HH.out.2.2,h2];rfl
     subst hv0;clear hb HH h2;have HB:=aa hbw;clear hbw;go_wp2_with fail;exact aK (v:=.tuple #[.int .i64 (l.length:Int),.int .i64 0]) (by simp[results,Tryz.results104,go_sem]) rfl ⟨rfl,HB.out⟩
def uL:List UInt8:=[38,38,32,124,124,32,59,59,32,60,60,32,60,60,45,62,62,32,60,38,32,62,38,32,60,62,32,62,124,32,60,32,32,62,32,32,38,32,32,59,32,32,124,32,32,40,32,32,41,32,32]
def xK:Nat→List UInt8→List UInt8
  | 0,S=>S
  | m+1,S=>if (S.getLastD 0).toNat=32 then xK m S.dropLast else S
theorem CP:∀k,1≤k→k≤17→xK 3 (sub uL (3*(k-1)) (3*k))=gO k:=by
  have:((List.range 17).all fun k=>xK 3 (sub uL (3*k) (3*(k+1)))==gO (k+1))=true:=by decide +kernel
  intro k h1 h2;have h:=bS.1 this (k-1) (cI.2 (by omega));rw[show k-1+1=k by omega] at h;simpa using h
theorem tv (hk:k≤17) (w:World):iG 61 #[.int .i64 (k:Int)] w (.string ⟨(gO k).toArray⟩):=by
  by_cases h0:k=0
  ·subst h0;go_enter Tryz.func61,Tryz.ntmps61;go_wp2;go_ret;exact⟨rfl,rfl⟩
  ·obtain⟨j,rfl⟩:∃j,k=j+1:=⟨k-1,by omega⟩;have d1:decide (((j+1:Nat):Int)<1)=false:=aL (by omega);have d2:decide ((17:Int)<((j+1:Nat):Int))=false:=aL (by omega);have htr:=CP (j+1) (by omega) hk;obtain⟨S,hS⟩:∃S,S=sub uL (3*(j+1-1)) (3*(j+1)):=⟨_,rfl⟩;rw[←hS] at htr;have hSl:S.length=3:=by rw[hS];unfold sub uL;simp;omega
   have HS:=aa (ac hS htr);clear hS htr;go_enter Tryz.func61,Tryz.ntmps61;go_wp2_with fail;have hext:(ByteArray.mk uL.toArray).extract (3*j) (3*(j+1))=⟨S.toArray⟩:=by rw[dX,HS.out.1];rfl
   have HX:=aa hext;clear hext;go_loop [3] (fun s=>∃T:List UInt8,T.length≤3∧s=.string ⟨T.toArray⟩∧xK T.length T=gO (j+1)) (fun s=>match s with | .string b=>b.size|_=>0)
   case atStart=>exact⟨S,by omega,by rw[←HX.out];rfl,by rw[hSl];exact HS.out.2⟩
   case round=>
     obtain⟨T,hT,rfl,htr⟩:=hrel;by_cases hne:0<T.length
     ·obtain⟨m,hm⟩:∃m,T.length=m+1:=⟨T.length-1,by omega⟩;obtain⟨g1,g2⟩:=jz T m (by omega);obtain⟨c,hc⟩:∃c,c=T.getD m 0:=⟨_,rfl⟩;have hlast:T.getLastD 0=c:=by
        rw[hc]
        cases T with
        | nil=>simp at hm
        | cons a r=>
          rw[List.getLastD_eq_getLast?,List.getLast?_eq_getElem?,aE,hm];rfl
      rw[←hc] at g2;have d0:decide ((0:Int)<(T.length:Int))=true:=aG (by omega);have e1:(T.length:Int)-1=(m:Int):=by omega
      have e2:(m:Int)<(T.length:Int):=by omega
      have e3:(0:Int)≤(m:Int):=by omega
      have e4:(m:Int)≤(T.length:Int):=by omega
      rw[hm] at htr;unfold xK at htr;rw[hlast] at htr;have HM:=aa (ac hm htr);by_cases h32:c.toNat=32
      ·have b1:((c.toNat:Int)==32)=true:=by rw[aR];omega
       have hdl:(ByteArray.mk T.toArray).extract 0 m=⟨(T.take m).toArray⟩:=by rw[dX];rfl
       have htl:T.dropLast=T.take m:=by rw[List.dropLast_eq_take,hm];rfl
       have hlen:(T.take m).length=m:=by rw[cm];omega
       rw[aD h32,htl] at htr;have HD:=aa (ac hdl (ac hlen htr));clear hm htr hc hlast hdl htl hlen;go_wp2;refine⟨⟨T.take m,?_,?_,?_⟩,?_⟩
       ·rw[HD.out.2.1];omega
       ·rw[HD.out.1]
       ·rw[HD.out.2.1];exact HD.out.2.2
       ·show ((ByteArray.mk T.toArray).extract 0 m).size<T.length;rw[HD.out.1];show (T.take m).length<_;rw[HD.out.2.1,HM.out.1];omega
      ·have b1:((c.toNat:Int)==32)=false:=by rw[az];omega
       rw[aB h32] at htr;have HT:=aa htr;clear hm hc hlast htr;go_wp2;go_ret;exact⟨by rw[←HT.out]<;>rfl,rfl⟩
     ·have d0:decide ((0:Int)<(T.length:Int))=false:=aL (by omega);obtain rfl:T=[]:=bP (by omega);have htr:[]=gO (j+1):=htr;have HT:=aa htr;clear htr;go_wp2;go_ret;exact⟨by rw[←HT.out];rfl,rfl⟩
theorem Dt (h:x+t.length≤l.length):t.isPrefixOf (l.drop x)=(sub l x (x+t.length)==t):=by
  rw[vg l x _ (by omega)];rw[bB,List.isPrefixOf_iff_prefix,aR,List.prefix_iff_eq_take];exact eq_comm
theorem jI (d:List UInt8):∀k,gW d k≤k
  | 0=>au _
  | k+1=>by
    unfold gW;split
    ·exact au _
    ·exact Nat.le_succ_of_le (jI d k)
theorem tT (hl:l.length≤100000) (hx:x≤l.length) :
    iG 106 #[.string ⟨l.toArray⟩,.int .i64 (x:Int)] w (.int .i64 ((gW (l.drop x) 17:Nat):Int)):=by
  obtain⟨H,hH⟩:∃H,H=gW (l.drop x) 17:=⟨_,rfl⟩;rw[←hH];have HH:=aa hH;clear hH;go_enter Tryz.func106,Tryz.ntmps106;go_wp2;go_loop [5,6,7] (fun b i t=>∃k:Nat,k≤17∧i=.int .i64 ((k:Int)+1)∧b=.int .i64 ((gW (l.drop x) k:Nat):Int)) (fun b i t=>18-(intOf i).toNat)
  case atStart=>exact⟨0,by omega,rfl,rfl⟩
  case round=>
    obtain⟨k,hk,rfl,rfl⟩:=hrel;by_cases hlt:k<17
    ·obtain⟨B,hB⟩:∃B,B=gW (l.drop x) k:=⟨_,rfl⟩;have hBk:B≤k:=by rw[hB];exact jI _ _
     obtain⟨t,ht⟩:∃t,t=gO (k+1):=⟨_,rfl⟩;obtain⟨u,hu⟩:∃u,u=gO B:=⟨_,rfl⟩;have htl:t.length≤3:=by rw[ht];exact nL _
     have hul:u.length≤3:=by rw[hu];exact nL _
     have hnext:gW (l.drop x) (k+1)=if t.isPrefixOf (l.drop x)=true∧u.length<t.length then k+1 else B:=by
       rw[ht,hu,hB];rfl
     rw[←hB];have c1:∀W,iG 61 #[.int .i64 ((k:Int)+1)] W (.string ⟨t.toArray⟩):=fun W=>by rw[ht];exact tv (k+1) (by omega) W
     have c2:∀W,iG 61 #[.int .i64 (B:Int)] W (.string ⟨u.toArray⟩):=fun W=>by rw[hu];exact tv B (by omega) W
     have HC:=aa (ac c1 (ac c2 hnext));have d0:(k:Int)+1≤17:=by omega
     clear c1 c2 hnext ht hu hB;have hgo:∀b:Bool,(t.isPrefixOf (l.drop x)&&decide (u.length<t.length))=b→gW (l.drop x) (k+1)=if b=true then k+1 else B:=by
       rintro b rfl;rw[HC.out.2.2];simp only[aT,bW]
     have HG:=aa hgo;clear hgo;by_cases hfit:x+t.length≤l.length
     ·have d1:decide ((t.length:Int)≤(l.length:Int)-(x:Int))=true:=aG (by omega);have e0:(0:Int)≤(x:Int):=by omega
      have e1:(x:Int)≤(x:Int)+(t.length:Int):=by omega
      have e2:(x:Int)+(t.length:Int)≤(l.length:Int):=by omega
      have hext:(ByteArray.mk l.toArray).extract x (x+t.length)=⟨(sub l x (x+t.length)).toArray⟩:=by rw[dX];rfl
      have hpre:=Dt l t x hfit
      cases hp:t.isPrefixOf (l.drop x);all_goals (
        rw[hp] at hpre;have q1:(((ByteArray.mk l.toArray).extract x (x+t.length)).toList==t)=(sub l x (x+t.length)==t):=by rw[hext,Lib.toList_data]
        rw[←hpre] at q1
        cases hd:decide (u.length<t.length);all_goals (
          have d3:decide ((u.length:Int)<(t.length:Int))=decide (u.length<t.length):=decide_eq_decide.2 (by omega);rw[hd] at d3;have hres:=HG.out _ (show _=_ by rw[hp,hd]);have HR:=aa hres;clear hres hpre hext hp
          go_wp2_with (first
            | (go_at_call 61;with_reducible refine(HC.out.1 _).mono ?_
               rintro e w' ⟨rfl,rfl⟩)
            | (go_at_call 61;with_reducible refine(HC.out.2.1 _).mono ?_
               rintro e w' ⟨rfl,rfl⟩))
          exact⟨⟨k+1,by omega,by go_num,by rw[HR.out];rfl⟩,by simp[intOf]<;>omega⟩))
     ·have d1:decide ((t.length:Int)≤(l.length:Int)-(x:Int))=false:=aL (by omega);have hres:gW (l.drop x) (k+1)=B:=by
        have hp:t.isPrefixOf (l.drop x)=false:=by
          rw[Bool.eq_false_iff];intro h
          have:=(List.isPrefixOf_iff_prefix.1 h).length_le
          rw[List.length_drop] at this;omega
        rw[HG.out false (by rw[hp];rfl)];rfl
      have HR:=aa hres;clear hres;go_wp2_with (
        (go_at_call 61;with_reducible refine(HC.out.1 _).mono ?_
         rintro e w' ⟨rfl,rfl⟩))
      exact⟨⟨k+1,by omega,by go_num,by rw[HR.out]⟩,by simp[intOf]<;>omega⟩
    ·obtain rfl:k=17:=by omega
     rw[←HH.out];go_wp2;go_ret;exact⟨rfl,rfl⟩
theorem jW (hl:l.length≤100000) (hx:x≤l.length) :
    iG 105 #[.string ⟨l.toArray⟩,.int .i64 (x:Int)] w (.int .i64 ((fF l x:Nat):Int)):=by
  obtain⟨H,hH⟩:∃H,H=fF l x:=⟨_,rfl⟩;rw[←hH];have HH:=aa hH;clear hH;go_enter Tryz.func105,Tryz.ntmps105;go_wp2;go_loop [1] (fun i=>∃k:Nat,k≤l.length∧i=.int .i64 (k:Int)∧fF l k=H) (fun i=>l.length-(intOf i).toNat)
  case atStart=>exact⟨x,hx,rfl,HH.out.symm⟩
  case round=>
    obtain⟨k,hk,rfl,he⟩:=hrel;by_cases hlt:k<l.length
    ·obtain⟨g1,g2⟩:=jz l k hlt;obtain⟨c,hc⟩:∃c,c=l.getD k 0:=⟨_,rfl⟩;rw[←hc] at g2;have u1:(k:Int)<(l.length:Int):=by omega
     have u2:(0:Int)≤(k:Int):=by omega
     rw[ll,aD hlt,←hc] at he;by_cases hb:gN c=true
     ·rw[aD hb] at he;have hw:((c.toNat:Int)==32)=true∨(((c.toNat:Int)==32)=false∧((c.toNat:Int)==9)=true):=by
        unfold gN at hb;simp only[dm,aR] at hb;by_cases h:c.toNat=32
        ·exact .inl (by rw[aR];omega)
        ·exact .inr ⟨by rw[az];omega,by rw[aR];omega⟩
      have HE:=aa he;clear he hb hc;rcases hw with b1|⟨b1,b2⟩ <;>
      ·go_wp2;exact⟨⟨k+1,by omega,by go_num,HE.out⟩,by simp[intOf]<;>omega⟩
     ·rw[aB hb] at he;have hn:((c.toNat:Int)==32)=false∧((c.toNat:Int)==9)=false:=by
        unfold gN at hb;simp only[dm,aR] at hb;exact⟨by rw[az];omega,by rw[az];omega⟩
      obtain⟨b1,b2⟩:=hn;by_cases h92:c.toNat=92
      ·have b3:((c.toNat:Int)==92)=true:=by rw[aR];omega
       by_cases hk1:k+1<l.length
       ·obtain⟨g3,g4⟩:=jz l (k+1) hk1;obtain⟨d,hd⟩:∃d,d=l.getD (k+1) 0:=⟨_,rfl⟩;rw[←hd] at g4;have u3:(k:Int)+1<(l.length:Int):=by omega
        have u4:(0:Int)≤(k:Int)+1:=by omega
        have d3:decide ((k:Int)+1<(l.length:Int))=true:=aG u3;have hcont:gS l k=((d.toNat:Int)==10):=by
          unfold gS;rw[←hc,←hd,aG hk1,h92];by_cases h:d.toNat=10
          ·rw[h];rfl
          ·rw[show (d.toNat==10)=false by simpa using h,show ((d.toNat:Int)==10)=false by rw[az];omega];rfl
        rw[hcont] at he
        cases hq:((d.toNat:Int)==10)
        ·rw[hq,aB (by decide)] at he;have HE:=aa he;clear he hb hc hd hcont;go_wp2;go_ret;exact⟨by rw[←HE.out]<;>rfl,rfl⟩
        ·rw[hq,aD rfl] at he;have HE:=aa he;clear he hb hc hd hcont;go_wp2;exact⟨⟨k+2,by omega,by go_num,HE.out⟩,by simp[intOf]<;>omega⟩
       ·have d3:decide ((k:Int)+1<(l.length:Int))=false:=aL (by omega);have u3:¬(k:Int)+1<(l.length:Int):=by omega
        have hcont:¬gS l k=true:=by unfold gS;rw[aL hk1];simp
        rw[aB hcont] at he;have HE:=aa he;clear he hb hc hcont;go_wp2;go_ret;exact⟨by rw[←HE.out]<;>rfl,rfl⟩
      ·have b3:((c.toNat:Int)==92)=false:=by rw[az];omega
       have hcont:¬gS l k=true:=by
         unfold gS;rw[←hc,show (c.toNat==92)=false by simpa using h92];simp
       rw[aB hcont] at he;have HE:=aa he;clear he hb hc hcont;go_wp2;go_ret;exact⟨by rw[←HE.out]<;>rfl,rfl⟩
    ·have u1:¬(k:Int)<(l.length:Int):=by omega
     rw[ll,aB hlt] at he;have HE:=aa he;clear he;go_wp2;go_ret;exact⟨by rw[←HE.out]<;>rfl,rfl⟩
end Go.Proofs.YtcagfamdoaoimaaGreatDoor
