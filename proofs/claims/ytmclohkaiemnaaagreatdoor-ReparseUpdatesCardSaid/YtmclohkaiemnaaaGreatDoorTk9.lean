/- Package token: continued, blank, number. -/
import Derived.Test.YtmclohkaiemnaaaGreatDoorLn9
import Derived.Test.YtmclohkaiemnaaaGreatDoorOp9
set_option linter.unusedVariables false
set_option linter.unusedSimpArgs false
set_option maxRecDepth 100000
set_option maxHeartbeats 8000000
namespace Go.Proofs.YtmclohkaiemnaaaGreatDoor
open Go.RowKit
variable (l:List UInt8) (s p:ByteArray) (x:Nat) (c:UInt8) (w:World)
theorem zL :
    ls 118 #[.string s,.string p] w (.bool (Lib.hasPrefix s.data.toList p.data.toList)):=by
  rw[←Lib.hasPrefix_of_take,←Lib.size_eq,←Lib.size_eq];go_enter Tryz.func118,Tryz.ntmps118;go_wp2
  ·rename_i h;go_ret;refine⟨?_,rfl⟩;show Ending.returned (Value.bool ((s.extract 0 p.size).toList==p.toList))=_;rw[Lib.extract_toList,Lib.toList_data];simp[h]
  ·rename_i h;go_ret;refine⟨?_,rfl⟩;show Ending.returned (Value.bool false)=_;simp[h]
theorem xV :
    ls 94 #[.string s,.string p] w (.bool (Lib.hasPrefix s.data.toList p.data.toList)):=by
  go_enter Tryz.func94,Tryz.ntmps94;go_wp2_with (go_at_call 118;refine(zL _ _ _).mono ?_;rintro e w' ⟨rfl,rfl⟩);go_ret;exact⟨rfl,rfl⟩
theorem GG:Lib.hasPrefix (l.drop x) [92,10]=iq l x:=by
  unfold iq
  match h:l.drop x with
  | []=>
    have h1:¬x+1<l.length:=by have:=congrArg List.length h;simp at this;omega
    simp[Lib.hasPrefix,h1]
  | [a]=>
    have h1:¬x+1<l.length:=by have:=congrArg List.length h;simp at this;omega
    simp[Lib.hasPrefix,List.isPrefixOf,h1]
  | a::b::r=>
    have h1:x+1<l.length:=by have:=congrArg List.length h;simp at this;omega
    have e0:l.getD x 0=a:=by have:(l.drop x).getD 0 0=a:=by rw[h];rfl
                             rw[←this];simp[aF]
    have e1:l.getD (x+1) 0=b:=by have:(l.drop x).getD 1 0=b:=by rw[h];rfl
                                 rw[←this];simp[aF]
    rw[e0,e1,aG h1];have ha:=gh (fun a=>((92:UInt8)==a)==(a.toNat==92)) (by decide +kernel) a;have hb:=gh (fun a=>((10:UInt8)==a)==(a.toNat==10)) (by decide +kernel) b;simp only[bA] at ha hb;show (((92:UInt8)==a)&&(((10:UInt8)==b)&&true))=(true&&a.toNat==92&&b.toNat==10);rw[ha,hb,Bool.and_true,cN]
theorem wP (hl:l.length≤100000) (hx:x≤l.length) :
    ls 110 #[.string ⟨l.toArray⟩,.int .i64 (x:Int)] w (.bool (iq l x)):=by
  have u1:(x:Int)≤(l.length:Int):=by omega
  have u2:(0:Int)≤(x:Int):=by omega
  have HP:=ac (show Lib.hasPrefix ((ByteArray.mk l.toArray).extract x l.length).data.toList [92,10]=iq l x by rw[fq,dc];exact GG l x);go_enter Tryz.func110,Tryz.ntmps110;go_wp2_with (
    (go_at_call 94;refine(xV _ _ _).mono ?_;rintro e w' ⟨he,rfl⟩;replace he:=he.trans (congrArg (fun b=>Ending.returned (Value.bool b)) HP.out);subst he))
  go_ret;exact⟨rfl,rfl⟩
theorem rN:(fI c==1)=iJ c:=by
  have:=gh (fun c=>(fI c==1)==iJ c) (by decide +kernel) c
  simpa using this
theorem Kn (hl:l.length≤100000) (hx:x≤l.length) :
    ls 111 #[.string ⟨l.toArray⟩,.int .i64 (x:Int)] w (.int .i64 (iz l x:Int)):=by
  obtain⟨H,hH⟩:∃H,H=iz l x:=⟨_,rfl⟩;rw[←hH];have HH:=ac hH;clear hH;go_enter Tryz.func111,Tryz.ntmps111;go_wp2;go_loop [1] (fun i=>∃k:Nat,k≤l.length∧i=.int .i64 k∧iz l k=H) (fun i=>l.length-(intOf i).toNat)
  case atStart=>exact⟨x,hx,rfl,HH.out.symm⟩
  case round=>
    obtain⟨k,hk,rfl,he⟩:=hrel;by_cases hlt:k<l.length
    ·have u1:(k:Int)<(l.length:Int):=by omega
     have u2:(0:Int)≤(k:Int):=by omega
     obtain⟨d,hd⟩:∃d,l[k]? = some d:=⟨_,ax hlt⟩;obtain⟨hL1,hL2⟩:=az.1 hd;have hL:∃h:k<(ByteArray.mk l.toArray).size,(ByteArray.mk l.toArray)[k]'h=d:=⟨hL1,hL2⟩;obtain⟨hL3,hL4⟩:=hL;have hg:l.getD k 0=d:=by rw[aF,hd];rfl
     rw[ja,aB hlt,hg] at he;clear hd hL2 hg
     cases hb:iJ d
     ·have c1:(fI d==1)=false:=by rw[rN,hb]
      rw[aC (by rw[hb];decide)] at he
      cases hc:iq l k
      ·have HE:=ac (show k=H by rw[←he,aC (by rw[hc];decide)]);have HC:=ac hc;clear he hb hc
       go_wp2_with (first
         | (go_at_call 109;refine(uA _ _).mono ?_;rintro e w2 ⟨rfl,rfl⟩)
         | (go_at_call 110;refine(wP l k _ hl hk).mono ?_;rintro e w2 ⟨he,rfl⟩;rw[HC.out] at he;subst he))
       go_ret;exact⟨by rw[←HE.out];rfl,by first|rfl|trivial⟩
      ·have hc2:k+2≤l.length:=by unfold iq at hc;simp at hc;omega
       have HE:=ac (show iz l (k+2)=H by rw[←he,aB (by rw[hc])]);have HC:=ac hc;clear he hb hc
       go_wp2_with (first
         | (go_at_call 109;refine(uA _ _).mono ?_;rintro e w2 ⟨rfl,rfl⟩)
         | (go_at_call 110;refine(wP l k _ hl hk).mono ?_;rintro e w2 ⟨he,rfl⟩;rw[HC.out] at he;subst he))
       exact⟨⟨k+2,hc2,by go_num,HE.out⟩,by simp[intOf];omega⟩
     ·have c1:(fI d==1)=true:=by rw[rN,hb]
      have HE:=ac (show iz l (k+1)=H by rw[←he,aB hb]);clear he hb;go_wp2_with (
        (go_at_call 109;refine(uA _ _).mono ?_;rintro e w2 ⟨rfl,rfl⟩))
      exact⟨⟨k+1,by omega,by go_num,HE.out⟩,by simp[intOf];omega⟩
    ·have HE:=ac (show k=H by rw[←he,ja,aC hlt]);clear he;go_wp2;go_ret;exact⟨by rw[←HE.out];rfl,by first|rfl|trivial⟩
theorem yj (hl:l.length≤100000) (hx:x≤l.length) :
    ls 113 #[.string ⟨l.toArray⟩,.int .i64 (x:Int)] w (.int .i64 ((if mQ l x=true then x+kC l x else x:Nat):Int)):=by
  have hsl:=jx jh l x;obtain⟨n,hn⟩:∃n,n=fL jh l x:=⟨_,rfl⟩;have hB:mQ l x=(decide (0<n)&&decide (x+n<l.length)&&((l.getD (x+n) 0).toNat==60||(l.getD (x+n) 0).toNat==62)):=by unfold mQ;rw[hn]
  have hR:(if mQ l x=true then x+kC l x else x:Nat)=if mQ l x=true then x+n else x:=by rw[hn]
  rw[hR];obtain⟨r,hr⟩:∃r,r=if mQ l x=true then x+n else x:=⟨_,rfl⟩;rw[←hr];rw[hB] at hr;have HH:=ac hn.symm;rw[←hn] at hsl;have hnx:n≤100000:=by omega
  clear hn hR hB hsl;by_cases h0:0<n
  ·have c0:(x:Int)<(x:Int)+(n:Int):=by omega
   by_cases h1:x+n<l.length
   ·have u1:(x:Int)+(n:Int)<(l.length:Int):=by omega
    have u2:(0:Int)≤(x:Int)+(n:Int):=by omega
    have u3:((x:Int)+(n:Int)).toNat=x+n:=by omega
    obtain⟨d,hd⟩:∃d,l[x+n]? = some d:=⟨_,ax h1⟩;obtain⟨hL1,hL2⟩:=az.1 hd;have hL:∃h:x+n<(ByteArray.mk l.toArray).size,(ByteArray.mk l.toArray)[x+n]'h=d:=⟨hL1,hL2⟩;obtain⟨hL3,hL4⟩:=hL;have hg:l.getD (x+n) 0=d:=by rw[aF,hd];rfl
    rw[hg,aG h0,aG h1,cN,cN] at hr;have e60:((d.toNat:Int)==60)=(d.toNat==60):=by rw[cT];simp;omega
    have e62:((d.toNat:Int)==62)=(d.toNat==62):=by rw[cT];simp;omega
    cases h60:(d.toNat==60)
    ·cases h62:(d.toNat==62);rw[h60] at e60;rw[h62] at e62;rw[h60,h62] at hr;have HR:=ac (show Ending.returned (Value.int .i64 (x:Int))=Ending.returned (.int .i64 (r:Int)) by rw[show r=x from hr])
     rotate_left
     rw[h60] at e60;rw[h62] at e62;rw[h60,h62] at hr;have HR:=ac (show Ending.returned (Value.int .i64 ((x:Int)+(n:Int)))=Ending.returned (.int .i64 (r:Int)) by rw[show r=x+n from hr];rfl)
     rotate_left
     all_goals (
       clear hr hd hL2 hg h60 h62;go_enter Tryz.func113,Tryz.ntmps113;go_wp2_with (
         (go_at_call 130;refine(mC l x _ (by omega) (by omega)).mono ?_;rintro e w2 ⟨he,rfl⟩;rw[HH.out] at he;subst he))
       go_ret;exact⟨HR.out,by first|rfl|trivial⟩)
    ·rw[h60] at e60;rw[h60] at hr;have HR:=ac (show Ending.returned (Value.int .i64 ((x:Int)+(n:Int)))=Ending.returned (.int .i64 (r:Int)) by rw[show r=x+n from hr];rfl);clear hr hd hL2 hg e62 h60;go_enter Tryz.func113,Tryz.ntmps113;go_wp2_with (
       (go_at_call 130;refine(mC l x _ (by omega) (by omega)).mono ?_;rintro e w2 ⟨he,rfl⟩;rw[HH.out] at he;subst he))
     go_ret;exact⟨HR.out,by first|rfl|trivial⟩
   ·have u1:¬(x:Int)+(n:Int)<(l.length:Int):=by omega
    rw[aE h1] at hr;have HR:=ac (show Ending.returned (Value.int .i64 (x:Int))=Ending.returned (.int .i64 (r:Int)) by rw[show r=x from by simpa using hr]);clear hr;go_enter Tryz.func113,Tryz.ntmps113;go_wp2_with (
      (go_at_call 130;refine(mC l x _ (by omega) (by omega)).mono ?_;rintro e w2 ⟨he,rfl⟩;rw[HH.out] at he;subst he))
    go_ret;exact⟨HR.out,by first|rfl|trivial⟩
  ·have h0:n=0:=by omega
   subst h0;have HR:=ac (show Ending.returned (Value.int .i64 (x:Int))=Ending.returned (.int .i64 (r:Int)) by rw[show r=x from by simpa using hr]);clear hr;go_enter Tryz.func113,Tryz.ntmps113;go_wp2_with (
     (go_at_call 130;refine(mC l x _ (by omega) (by omega)).mono ?_;rintro e w2 ⟨he,rfl⟩;rw[HH.out] at he;subst he))
   go_ret;exact⟨HR.out,by first|rfl|trivial⟩
end Go.Proofs.YtmclohkaiemnaaaGreatDoor
