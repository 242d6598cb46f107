/- The small functions of package token: line, here, continued, blank, number; and of the library's: strings.IndexByte, TrimLeft, HasPrefix. -/
import Derived.Test.YtcagfamdoaoimaaGreatDoorCls
import Derived.Test.YtcagfamdoaoimaaGreatDoorLa9
import Derived.Test.YtcagfamdoaoimaaGreatDoorOp9
import Derived.Lib.Strings
import Derived.Lib.Slices
import Derived.Lib.Walk
import Derived.Lib.Bytealg
set_option linter.unusedVariables false
set_option linter.unusedSimpArgs false
set_option maxRecDepth 100000
set_option maxHeartbeats 8000000
namespace Go.Proofs.YtcagfamdoaoimaaGreatDoor
open Go.RowKit
variable (l:List UInt8) (s:ByteArray) (u:List UInt8) (t:Bool) (d:List UInt8) (p:ByteArray) (c:Int) (x:Nat) (w:World)
theorem KJ:∀d:List UInt8,Lib.indexByte d 10=if (d.takeWhile fun c=>c.toNat != 10).length<d.length then ((d.takeWhile fun c=>c.toNat != 10).length:Int) else -1
  | []=>rfl
  | b::d=>by
    unfold Lib.indexByte;by_cases hb:b=10
    ·subst hb;rfl
    ·have hb1:(b==10)=false:=by simpa using hb
     have hb2:(b.toNat != 10)=true:=by
       simp only[bne_iff_ne,ne_eq];exact fun h=>hb (dc.1 h)
     rw[hb1,KJ d,cS,aD hb2];simp only[aI,bp,aP,Nat.add_lt_add_iff_right];split
     ·rename_i h
      have:(((d.takeWhile fun c=>c.toNat != 10).length:Int) == -1)=false:=by rw[az];omega
      rw[this];simp
     ·rfl
theorem Ek :
    iG 149 #[.string s,.int .u8 c] w (.int .i64 (Lib.indexByte s.data.toList c.toNat.toUInt8)):=by
  go_enter Tryz.func149,Tryz.ntmps149;go_wp2;rw[run_callFunc_extern Tryz.func188 (by kernel_rfl) (by kernel_rfl) (by kernel_rfl) (e:=Extern.BytealgIndexByte.indexByte) (by kernel_rfl),Lib.run_indexByteString];simp only[Result.andThen];rw[Oper.upon_value];go_wp2;go_ret;exact⟨rfl,rfl⟩
theorem Cr :
    iG 116 #[.string s,.int .u8 c] w (.int .i64 (Lib.indexByte s.data.toList c.toNat.toUInt8)):=by
  go_enter Tryz.func116,Tryz.ntmps116;go_wp2_with (go_at_call 149;refine(Ek _ _ _).mono ?_;rintro e w' ⟨rfl,rfl⟩);go_ret;exact⟨rfl,rfl⟩
theorem vK (hx:x≤l.length) :
    iG 116 #[.string ((ByteArray.mk l.toArray).extract x l.length),.int .u8 10] w (.int .i64 (if gD l x<l.length then ((gD l x-x:Nat):Int) else -1)):=by
  refine(Cr _ _ w).mono ?_;rintro e w' ⟨rfl,rfl⟩;refine⟨jN ?_,rfl⟩;rw[dX,dy];show Lib.indexByte (l.drop x) 10=_;rw[KJ];unfold gD
  have:=(List.takeWhile_prefix (l:=l.drop x) (fun c=>c.toNat != 10)).length_le
  rw[List.length_drop] at this ⊢;by_cases h:((l.drop x).takeWhile fun c=>c.toNat != 10).length<l.length-x
  ·rw[aD h,aD (by omega),Nat.add_sub_cancel_left]
  ·rw[aB h,aB (by omega)]
theorem Be (hl:l.length≤100000) (hx:x≤l.length) :
    iG 164 #[.string ⟨l.toArray⟩,.int .i64 (x:Int)] w (.tuple #[.int .i64 (gD l x:Int),.bool (decide (gD l x<l.length))]):=by
  have u1:(x:Int)≤(l.length:Int):=by omega
  have u2:(0:Int)≤(x:Int):=by omega
  have hle:=nP l x hx;obtain⟨n,hn⟩:∃n,n=gD l x:=⟨_,rfl⟩;by_cases hlt:n<l.length
  ·have u3:(0:Int)≤((n-x:Nat):Int):=by omega
   have HN:=aa (ac hn hlt);have u4:n-x≤100000:=by omega
   have u5:x+(n-x)=n:=by omega
   rw[←hn,aG hlt];clear hle hlt hn;go_enter Tryz.func164,Tryz.ntmps164;go_wp2_with (
     (go_at_call 116;refine(vK l x _ (by omega)).mono ?_;rintro e w2 ⟨he,rfl⟩;rw[←HN.out.1,aD HN.out.2] at he;subst he))
   go_ret2;exact⟨by rw[show (x:Int)+((n-x:Nat):Int)=(n:Int) by omega];rfl,rfl⟩
  ·have u5:n=l.length:=by omega
   have HN:=aa (ac hn hlt);rw[←hn,aL hlt];clear hle hlt hn;go_enter Tryz.func164,Tryz.ntmps164;go_wp2_with (
     (go_at_call 116;refine(vK l x _ (by omega)).mono ?_;rintro e w2 ⟨he,rfl⟩;rw[←HN.out.1,aB HN.out.2] at he;subst he))
   go_ret2;exact⟨by rw[u5];rfl,rfl⟩
theorem Iu (hl:d.length≤100000) :
    iG 221 #[.string ⟨d.toArray⟩,.int .u8 9] w (.string ⟨(jR true d).toArray⟩):=by
  go_enter Tryz.func221,Tryz.ntmps221;go_wp2;go_loop [0] (fun s=>∃u:List UInt8,u.length≤d.length∧s=.string ⟨u.toArray⟩∧jR true u=jR true d) (fun s=>match s with | .string b=>b.size|_=>0)
  case atStart=>exact⟨d,au _,rfl,rfl⟩
  case round=>
    obtain⟨u,hu,rfl,he⟩:=hrel;have HE:=aa he;clear he
    cases u with
    | nil=>
      go_wp2;go_ret;exact⟨by rw[←HE.out];rfl,by first|rfl|trivial⟩
    | cons b u=>
      have hL:∃h:0<(ByteArray.mk (b::u).toArray).size,(ByteArray.mk (b::u).toArray)[0]'h=b:=⟨by show 0<(b::u).length;simp,rfl⟩;obtain⟨hL3,hL4⟩:=hL;have u1:(0:Int)<((b::u).length:Int):=by simp
      have u2:(b::u).length≤100000:=by omega
      have hex:(ByteArray.mk (b::u).toArray).extract 1 (u.length+1)=⟨u.toArray⟩:=by rw[dX,bR (by simp)];rfl
      cases h9:((b.toNat:Int)==9)
      ·have hb9:b.toNat≠9:=by simp at h9;omega
       have HT:=aa (show jR true (b::u)=b::u by unfold jR;rw[aD rfl,List.dropWhile_cons,aB (by simpa using hb9)]);clear hex hb9;go_wp2;go_ret;exact⟨by rw[←HE.out,HT.out];rfl,by first|rfl|trivial⟩
      ·have hb9:b.toNat=9:=by simp at h9;omega
       have HT:=aa (ac hex (show jR true (b::u)=jR true u by unfold jR;rw[aD rfl,aD rfl,List.dropWhile_cons,aD (by simpa using hb9)]));have hu':u.length≤d.length:=by simp at hu;omega
       clear hex hb9;go_wp2;exact⟨⟨u,hu',by rw[HT.out.1],by rw[←HT.out.2,HE.out]⟩,by rw[HT.out.1];show u.length<u.length+1;omega⟩
theorem Ec (hl:d.length≤100000) :
    iG 193 #[.string ⟨d.toArray⟩,.string ⟨#[9]⟩] w (.string ⟨(jR true d).toArray⟩):=by
  by_cases h0:d=[]
  ·subst h0;go_enter Tryz.func193,Tryz.ntmps193;go_wp2;go_ret;exact⟨rfl,rfl⟩
  have hb0:(d==[])=false:=by simpa using h0
  go_enter Tryz.func193,Tryz.ntmps193;go_wp2_with (
    (go_at_call 221;refine(Iu d _ hl).mono ?_;rintro e w2 ⟨rfl,rfl⟩))
  go_ret;exact⟨rfl,rfl⟩
theorem Gt (hl:l.length≤100000) (hx:x≤l.length) :
    jL 159 #[.string ⟨l.toArray⟩,.int .i64 (x:Int),.agg #[.string ⟨u.toArray⟩,.bool t]] w (.tuple #[.int .i64 ((gm l x u t).1:Int),.bool (gm l x u t).2]):=by
  obtain⟨H,hH⟩:∃H,H=gm l x u t:=⟨_,rfl⟩;rw[←hH];have HH:=aa hH;clear hH;go_enter Tryz.func159,Tryz.ntmps159;go_wp2;obtain⟨w1,hw1⟩:∃w1,w1=w.alloc (.cells #[.string ⟨u.toArray⟩,.bool t] 124):=⟨_,rfl⟩;have hb1:Below w.heap.size w w1:=by rw[hw1];exact aY (aC _ _) (au _) _
  have hk:Bk w1 w.heap.size 124 #[.string ⟨u.toArray⟩,.bool t]:=by rw[hw1];exact Bk.new _ _ _
  have y0:w1.cell? ⟨w.heap.size,0,none⟩=some (.string ⟨u.toArray⟩):=by rw[hk.cell];rfl
  have y1:w1.cell? ⟨w.heap.size,1,none⟩=some (.bool t):=by rw[hk.cell];rfl
  rw[←hw1];have H1:=aa hb1;clear hw1 hb1 hk;go_step3;go_wp2;go_step3;go_wp2;go_loop [1] (fun i=>∃k:Nat,k≤l.length∧i=.int .i64 k∧gm l k u t=H) (fun i=>l.length-(intOf i).toNat)
  case atStart=>exact⟨x,hx,rfl,HH.out.symm⟩
  case round=>
    obtain⟨k,hk,rfl,he⟩:=hrel;have HE:=aa he;clear he;by_cases hlt:k<l.length
    ·have u1:(k:Int)<(l.length:Int):=by omega
     have u2:(0:Int)≤(k:Int):=by omega
     have hE:=qF l k hlt;have hN:=nP l k (by omega);obtain⟨n,hn⟩:∃n,n=gD l k:=⟨_,rfl⟩;obtain⟨m,hm⟩:∃m,m=ke l k:=⟨_,rfl⟩;obtain⟨S,hS⟩:∃S,S=sub l k n:=⟨_,rfl⟩;have hSl:S.length≤100000:=by rw[hS];unfold sub;simp;omega
     have hext:(ByteArray.mk l.toArray).extract k n=⟨S.toArray⟩:=by rw[dX,hS];rfl
     have hstep:H=if jR t S=u then (m,true) else gm l m u t:=by rw[←HE.out,kh,aD hlt,←hn,←hm,←hS]
     have hmm:m=if n<l.length then n+1 else n:=by rw[hm,hn];rfl
     rw[←hn] at hN;rw[←hm] at hE;have HX:=aa (ac hn (ac hext hstep));clear hn hm hS hext hstep;have v1:(k:Int)≤(n:Int):=by omega
     have v2:(n:Int)≤(l.length:Int):=by omega
     have hlist:((ByteArray.mk l.toArray).extract k n).toList=S:=by rw[HX.out.2.1,Lib.toList_data]
     have tb:∀b:Bool,(jR t S==u)=b→(t=false→(((ByteArray.mk l.toArray).extract k n).toList==u)=b)∧(t=true→(jR true S==u)=b)∧(b=false→H=gm l m u t)∧(b=true→H=(m,true)):=by
       intro b hb;refine⟨fun ht=>by rw[hlist,←hb,ht];rfl,fun ht=>by rw[←hb,ht],fun h=>?_,fun h=>?_⟩
       ·subst h;rw[HX.out.2.2,aB (by simpa using hb)]
       ·subst h;rw[HX.out.2.2,aD (by simpa using hb)]
     by_cases hnl:n<l.length
     ·have c1:decide (gD l k<l.length)=true:=by rw[←HX.out.1];simpa using hnl
      have v3:m=n+1:=by rw[hmm,aD hnl]
      have HC:=aa (ac c1 v3);clear c1 v3 hmm hlist
      cases hb:(jR t S==u);all_goals (
        obtain⟨b1,b2,b3,b4⟩:=tb _ hb;have HB:=aa (ac b3 b4);clear tb hb b3 b4
        cases t;all_goals (
          first
            | (have b1:=b1 rfl;clear b2)
            | (have b2:=b2 rfl;clear b1)))
      all_goals (
        go_wp2_with (first
          | (go_at_call 164;refine(Be l k _ hl hk).mono ?_;rintro e w2 ⟨he,rfl⟩;rw[HC.out.1,←HX.out.1] at he;subst he)
          | (go_at_call 193;rw[HX.out.2.1];refine(Ec S _ hSl).mono ?_;rintro e w2 ⟨rfl,rfl⟩)))
      all_goals first
        | (try rw[bC]
           go_ret2
           have:=HC.out.2
           exact⟨by rw[HB.out.2 (by first|rfl|trivial),HC.out.2];rfl,H1.out⟩)
        | exact⟨⟨m,hE.2,by rw[HC.out.2];go_num,(HB.out.1 (by first|rfl|trivial)).symm⟩,by have:=HC.out.2;simp[intOf];omega⟩
     ·have c1:decide (gD l k<l.length)=false:=by rw[←HX.out.1];simpa using hnl
      have v3:m=n:=by rw[hmm,aB hnl]
      have HC:=aa (ac c1 v3);clear c1 v3 hmm hlist
      cases hb:(jR t S==u);all_goals (
        obtain⟨b1,b2,b3,b4⟩:=tb _ hb;have HB:=aa (ac b3 b4);clear tb hb b3 b4
        cases t;all_goals (
          first
            | (have b1:=b1 rfl;clear b2)
            | (have b2:=b2 rfl;clear b1)))
      all_goals (
        go_wp2_with (first
          | (go_at_call 164;refine(Be l k _ hl hk).mono ?_;rintro e w2 ⟨he,rfl⟩;rw[HC.out.1,←HX.out.1] at he;subst he)
          | (go_at_call 193;rw[HX.out.2.1];refine(Ec S _ hSl).mono ?_;rintro e w2 ⟨rfl,rfl⟩)))
      all_goals first
        | (try rw[bC]
           go_ret2
           have:=HC.out.2
           exact⟨by rw[HB.out.2 (by first|rfl|trivial),HC.out.2];rfl,H1.out⟩)
        | exact⟨⟨m,hE.2,by rw[HC.out.2],(HB.out.1 (by first|rfl|trivial)).symm⟩,by have:=HC.out.2;simp[intOf];omega⟩
    ·go_wp2;try rw[bC]
     go_ret2;exact⟨by rw[←HE.out,kh,aB hlt];rfl,H1.out⟩
theorem Aj :
    iG 225 #[.string s,.string p] w (.bool (Lib.hasPrefix s.data.toList p.data.toList)):=by
  rw[←Lib.hasPrefix_of_take,←Lib.size_eq,←Lib.size_eq];go_enter Tryz.func225,Tryz.ntmps225;go_wp2
  ·rename_i h;go_ret;refine⟨?_,rfl⟩;show Ending.returned (Value.bool ((s.extract 0 p.size).toList==p.toList))=_;rw[Lib.extract_toList,Lib.toList_data];simp[h]
  ·rename_i h;go_ret;refine⟨?_,rfl⟩;show Ending.returned (Value.bool false)=_;simp[h]
theorem Fa :
    iG 194 #[.string s,.string p] w (.bool (Lib.hasPrefix s.data.toList p.data.toList)):=by
  go_enter Tryz.func194,Tryz.ntmps194;go_wp2_with (go_at_call 225;refine(Aj _ _ _).mono ?_;rintro e w' ⟨rfl,rfl⟩);go_ret;exact⟨rfl,rfl⟩
theorem G8:Lib.hasPrefix (l.drop x) [92,10]=gS l x:=by
  unfold gS
  match h:l.drop x with
  | []=>
    have h1:¬x+1<l.length:=by have:=congrArg List.length h;simp at this;omega
    simp[Lib.hasPrefix,h1]
  | [a]=>
    have h1:¬x+1<l.length:=by have:=congrArg List.length h;simp at this;omega
    simp[Lib.hasPrefix,List.isPrefixOf,h1]
  | a::b::r=>
    have h1:x+1<l.length:=by have:=congrArg List.length h;simp at this;omega
    have e0:l.getD x 0=a:=by have:(l.drop x).getD 0 0=a:=by rw[h];rfl
                             rw[←this];simp[aE]
    have e1:l.getD (x+1) 0=b:=by have:(l.drop x).getD 1 0=b:=by rw[h];rfl
                                 rw[←this];simp[aE]
    rw[e0,e1,aG h1];have ha:=fg (fun a=>((92:UInt8)==a)==(a.toNat==92)) (by decide +kernel) a;have hb:=fg (fun a=>((10:UInt8)==a)==(a.toNat==10)) (by decide +kernel) b;simp only[aR] at ha hb;show (((92:UInt8)==a)&&(((10:UInt8)==b)&&true))=(true&&a.toNat==92&&b.toNat==10);rw[ha,hb,Bool.and_true,cK]
theorem xf (hl:l.length≤100000) (hx:x≤l.length) :
    iG 162 #[.string ⟨l.toArray⟩,.int .i64 (x:Int)] w (.bool (gS l x)):=by
  have u1:(x:Int)≤(l.length:Int):=by omega
  have u2:(0:Int)≤(x:Int):=by omega
  have HP:=aa (show Lib.hasPrefix ((ByteArray.mk l.toArray).extract x l.length).data.toList [92,10]=gS l x by rw[dX,dy];exact G8 l x);go_enter Tryz.func162,Tryz.ntmps162;go_wp2_with (
    (go_at_call 194;refine(Fa _ _ _).mono ?_;rintro e w' ⟨he,rfl⟩;replace he:=he.trans (congrArg (fun b=>Ending.returned (Value.bool b)) HP.out);subst he))
  go_ret;exact⟨rfl,rfl⟩
theorem rO (c:UInt8):(eT c==1)=gN c:=by
  have:=fg (fun c=>(eT c==1)==gN c) (by decide +kernel) c
  simpa using this
theorem Kd (hl:l.length≤100000) (hx:x≤l.length) :
    iG 163 #[.string ⟨l.toArray⟩,.int .i64 (x:Int)] w (.int .i64 (fF l x:Int)):=by
  obtain⟨H,hH⟩:∃H,H=fF l x:=⟨_,rfl⟩;rw[←hH];have HH:=aa hH;clear hH;go_enter Tryz.func163,Tryz.ntmps163;go_wp2;go_loop [1] (fun i=>∃k:Nat,k≤l.length∧i=.int .i64 k∧fF l k=H) (fun i=>l.length-(intOf i).toNat)
  case atStart=>exact⟨x,hx,rfl,HH.out.symm⟩
  case round=>
    obtain⟨k,hk,rfl,he⟩:=hrel;by_cases hlt:k<l.length
    ·have u1:(k:Int)<(l.length:Int):=by omega
     have u2:(0:Int)≤(k:Int):=by omega
     obtain⟨d,hd⟩:∃d,l[k]? = some d:=⟨_,ax hlt⟩;obtain⟨hL1,hL2⟩:=ay.1 hd;have hL:∃h:k<(ByteArray.mk l.toArray).size,(ByteArray.mk l.toArray)[k]'h=d:=⟨hL1,hL2⟩;obtain⟨hL3,hL4⟩:=hL;have hg:l.getD k 0=d:=by rw[aE,hd];rfl
     rw[ll,aD hlt,hg] at he;clear hd hL2 hg
     cases hb:gN d
     ·have c1:(eT d==1)=false:=by rw[rO,hb]
      rw[aB (by rw[hb];decide)] at he
      cases hc:gS l k
      ·have HE:=aa (show k=H by rw[←he,aB (by rw[hc];decide)]);have HC:=aa hc;clear he hb hc
       go_wp2_with (first
         | (go_at_call 120;refine(sF _ _).mono ?_;rintro e w2 ⟨rfl,rfl⟩)
         | (go_at_call 162;refine(xf l k _ hl hk).mono ?_;rintro e w2 ⟨he,rfl⟩;rw[HC.out] at he;subst he))
       go_ret;exact⟨by rw[←HE.out];rfl,by first|rfl|trivial⟩
      ·have hc2:k+2≤l.length:=by unfold gS at hc;simp at hc;omega
       have HE:=aa (show fF l (k+2)=H by rw[←he,aD (by rw[hc])]);have HC:=aa hc;clear he hb hc
       go_wp2_with (first
         | (go_at_call 120;refine(sF _ _).mono ?_;rintro e w2 ⟨rfl,rfl⟩)
         | (go_at_call 162;refine(xf l k _ hl hk).mono ?_;rintro e w2 ⟨he,rfl⟩;rw[HC.out] at he;subst he))
       exact⟨⟨k+2,hc2,by go_num,HE.out⟩,by simp[intOf];omega⟩
     ·have c1:(eT d==1)=true:=by rw[rO,hb]
      have HE:=aa (show fF l (k+1)=H by rw[←he,aD hb]);clear he hb;go_wp2_with (
        (go_at_call 120;refine(sF _ _).mono ?_;rintro e w2 ⟨rfl,rfl⟩))
      exact⟨⟨k+1,by omega,by go_num,HE.out⟩,by simp[intOf];omega⟩
    ·have HE:=aa (show k=H by rw[←he,ll,aB hlt]);clear he;go_wp2;go_ret;exact⟨by rw[←HE.out];rfl,by first|rfl|trivial⟩
theorem yH (hl:l.length≤100000) (hx:x≤l.length) :
    iG 165 #[.string ⟨l.toArray⟩,.int .i64 (x:Int)] w (.int .i64 ((if mq l x=true then x+l8 l x else x:Nat):Int)):=by
  have hsl:=iJ gz l x;obtain⟨n,hn⟩:∃n,n=fN gz l x:=⟨_,rfl⟩;have hB:mq l x=(decide (0<n)&&decide (x+n<l.length)&&((l.getD (x+n) 0).toNat==60||(l.getD (x+n) 0).toNat==62)):=by unfold mq;rw[hn]
  have hR:(if mq l x=true then x+l8 l x else x:Nat)=if mq l x=true then x+n else x:=by rw[hn]
  rw[hR];obtain⟨r,hr⟩:∃r,r=if mq l x=true then x+n else x:=⟨_,rfl⟩;rw[←hr];rw[hB] at hr;have HH:=aa hn.symm;rw[←hn] at hsl;have hnx:n≤100000:=by omega
  clear hn hR hB hsl;by_cases h0:0<n
  ·have c0:(x:Int)<(x:Int)+(n:Int):=by omega
   by_cases h1:x+n<l.length
   ·have u1:(x:Int)+(n:Int)<(l.length:Int):=by omega
    have u2:(0:Int)≤(x:Int)+(n:Int):=by omega
    have u3:((x:Int)+(n:Int)).toNat=x+n:=by omega
    obtain⟨d,hd⟩:∃d,l[x+n]? = some d:=⟨_,ax h1⟩;obtain⟨hL1,hL2⟩:=ay.1 hd;have hL:∃h:x+n<(ByteArray.mk l.toArray).size,(ByteArray.mk l.toArray)[x+n]'h=d:=⟨hL1,hL2⟩;obtain⟨hL3,hL4⟩:=hL;have hg:l.getD (x+n) 0=d:=by rw[aE,hd];rfl
    rw[hg,aG h0,aG h1,cK,cK] at hr;have e60:((d.toNat:Int)==60)=(d.toNat==60):=by rw[bB];simp;omega
    have e62:((d.toNat:Int)==62)=(d.toNat==62):=by rw[bB];simp;omega
    cases h60:(d.toNat==60)
    ·cases h62:(d.toNat==62);rw[h60] at e60;rw[h62] at e62;rw[h60,h62] at hr;have HR:=aa (show Ending.returned (Value.int .i64 (x:Int))=Ending.returned (.int .i64 (r:Int)) by rw[show r=x from hr])
     rotate_left
     rw[h60] at e60;rw[h62] at e62;rw[h60,h62] at hr;have HR:=aa (show Ending.returned (Value.int .i64 ((x:Int)+(n:Int)))=Ending.returned (.int .i64 (r:Int)) by rw[show r=x+n from hr];rfl)
     rotate_left
     all_goals (
       clear hr hd hL2 hg h60 h62;go_enter Tryz.func165,Tryz.ntmps165;go_wp2_with (
         (go_at_call 187;refine(mw l x _ (by omega) (by omega)).mono ?_;rintro e w2 ⟨he,rfl⟩;rw[HH.out] at he;subst he))
       go_ret;exact⟨HR.out,by first|rfl|trivial⟩)
    ·rw[h60] at e60;rw[h60] at hr;have HR:=aa (show Ending.returned (Value.int .i64 ((x:Int)+(n:Int)))=Ending.returned (.int .i64 (r:Int)) by rw[show r=x+n from hr];rfl);clear hr hd hL2 hg e62 h60;go_enter Tryz.func165,Tryz.ntmps165;go_wp2_with (
       (go_at_call 187;refine(mw l x _ (by omega) (by omega)).mono ?_;rintro e w2 ⟨he,rfl⟩;rw[HH.out] at he;subst he))
     go_ret;exact⟨HR.out,by first|rfl|trivial⟩
   ·have u1:¬(x:Int)+(n:Int)<(l.length:Int):=by omega
    rw[aL h1] at hr;have HR:=aa (show Ending.returned (Value.int .i64 (x:Int))=Ending.returned (.int .i64 (r:Int)) by rw[show r=x from by simpa using hr]);clear hr;go_enter Tryz.func165,Tryz.ntmps165;go_wp2_with (
      (go_at_call 187;refine(mw l x _ (by omega) (by omega)).mono ?_;rintro e w2 ⟨he,rfl⟩;rw[HH.out] at he;subst he))
    go_ret;exact⟨HR.out,by first|rfl|trivial⟩
  ·have h0:n=0:=by omega
   subst h0;have HR:=aa (show Ending.returned (Value.int .i64 (x:Int))=Ending.returned (.int .i64 (r:Int)) by rw[show r=x from by simpa using hr]);clear hr;go_enter Tryz.func165,Tryz.ntmps165;go_wp2_with (
     (go_at_call 187;refine(mw l x _ (by omega) (by omega)).mono ?_;rintro e w2 ⟨he,rfl⟩;rw[HH.out] at he;subst he))
   go_ret;exact⟨HR.out,by first|rfl|trivial⟩
end Go.Proofs.YtcagfamdoaoimaaGreatDoor
