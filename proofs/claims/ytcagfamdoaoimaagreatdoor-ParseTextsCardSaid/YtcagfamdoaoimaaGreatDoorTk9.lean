/- The small functions of package token: line, here, continued, blank, number; and of the library's: strings.IndexByte, TrimLeft, HasPrefix. -/
import Derived.Test.YtcagfamdoaoimaaGreatDoorCls
import Derived.Test.YtcagfamdoaoimaaGreatDoorLa9
import Derived.Test.YtcagfamdoaoimaaGreatDoorOp9
import Derived.Lib.Strings
import Derived.Lib.Slices
import Derived.Lib.Walk
import Derived.Lib.Bytealg
set_option linter.unusedVariables false
set_option linter.unusedSimpArgs false
set_option maxRecDepth 100000
set_option maxHeartbeats 8000000
namespace Go.Proofs.YtcagfamdoaoimaaGreatDoor
open Go.RowKit
variable (l:List UInt8) (s:ByteArray) (u:List UInt8) (t:Bool) (d:List UInt8) (p:ByteArray) (c:Int) (x:Nat) (w:World)
theorem Kx:∀d:List UInt8,Lib.indexByte d 10=if (d.takeWhile fun c=>c.toNat != 10).length<d.length then ((d.takeWhile fun c=>c.toNat != 10).length:Int) else -1
  | []=>rfl
  | b::d=>by
    unfold Lib.indexByte;by_cases hb:b=10
    ·subst hb;rfl
    ·have hb1:(b==10)=false:=by simpa using hb
     have hb2:(b.toNat != 10)=true:=by
       simp only[bne_iff_ne,dF];exact fun h=>hb (cV.1 h)
     rw[hb1,Kx d,dy,aE hb2];simp only[aK,br,aO,Nat.add_lt_add_iff_right];split
     ·rename_i h
      have:(((d.takeWhile fun c=>c.toNat != 10).length:Int) == -1)=false:=by rw[ay];omega
      rw[this];simp
     ·rfl
theorem El :
    Calls Tryz.prog 149 #[.string s,.int .u8 c] w fun e w'=>e=.returned (.int .i64 (Lib.indexByte s.data.toList c.toNat.toUInt8))∧w=w':=by
  go_enter Tryz.func149,Tryz.ntmps149;go_wp2;rw[run_callFunc_extern Tryz.func188 (by kernel_rfl) (by kernel_rfl) (by kernel_rfl) (e:=Extern.BytealgIndexByte.indexByte) (by kernel_rfl),Lib.run_indexByteString];simp only[Result.andThen];rw[Oper.upon_value];go_wp2;go_ret;exact⟨rfl,rfl⟩
theorem Cn :
    Calls Tryz.prog 116 #[.string s,.int .u8 c] w fun e w'=>e=.returned (.int .i64 (Lib.indexByte s.data.toList c.toNat.toUInt8))∧w=w':=by
  go_enter Tryz.func116,Tryz.ntmps116;go_wp2_with (go_at_call 149;refine(El _ _ _).mono ?_;rintro e w' ⟨rfl,rfl⟩);go_ret;exact⟨rfl,rfl⟩
theorem vF (hx:x≤l.length) :
    Calls Tryz.prog 116 #[.string ((ByteArray.mk l.toArray).extract x l.length),.int .u8 10] w fun e w'=>e=.returned (.int .i64 (if fM l x<l.length then ((fM l x-x:Nat):Int) else -1))∧w=w':=by
  refine(Cn _ _ w).mono ?_;rintro e w' ⟨rfl,rfl⟩;refine⟨iO ?_,rfl⟩;rw[dX,List.take_length];show Lib.indexByte (l.drop x) 10=_;rw[Kx];unfold fM
  have:=(List.takeWhile_prefix (l:=l.drop x) (fun c=>c.toNat != 10)).length_le
  rw[List.length_drop] at this ⊢;by_cases h:((l.drop x).takeWhile fun c=>c.toNat != 10).length<l.length-x
  ·rw[aE h,aE (by omega),Nat.add_sub_cancel_left]
  ·rw[aB h,aB (by omega)]
theorem AX (hl:l.length≤100000) (hx:x≤l.length) :
    Calls Tryz.prog 164 #[.string ⟨l.toArray⟩,.int .i64 (x:Int)] w fun e w'=>e=.returned (.tuple #[.int .i64 (fM l x:Int),.bool (decide (fM l x<l.length))])∧w=w':=by
  have u1:(x:Int)≤(l.length:Int):=by omega
  have u2:(0:Int)≤(x:Int):=by omega
  have hle:=mF l x hx;obtain⟨n,hn⟩:∃n,n=fM l x:=⟨_,rfl⟩;by_cases hlt:n<l.length
  ·have u3:(0:Int)≤((n-x:Nat):Int):=by omega
   have HN:=aa (ac hn hlt);have u4:n-x≤100000:=by omega
   have u5:x+(n-x)=n:=by omega
   rw[←hn,aJ hlt];clear hle hlt hn;go_enter Tryz.func164,Tryz.ntmps164;go_wp2_with (
     (go_at_call 116;refine(vF l x _ (by omega)).mono ?_;rintro e w2 ⟨he,rfl⟩;rw[←HN.out.1,aE HN.out.2] at he;subst he))
   go_ret2;exact⟨by rw[show (x:Int)+((n-x:Nat):Int)=(n:Int) by omega];rfl,rfl⟩
  ·have u5:n=l.length:=by omega
   have HN:=aa (ac hn hlt);rw[←hn,aU hlt];clear hle hlt hn;go_enter Tryz.func164,Tryz.ntmps164;go_wp2_with (
     (go_at_call 116;refine(vF l x _ (by omega)).mono ?_;rintro e w2 ⟨he,rfl⟩;rw[←HN.out.1,aB HN.out.2] at he;subst he))
   go_ret2;exact⟨by rw[u5];rfl,rfl⟩
theorem Iv (hl:d.length≤100000) :
    Calls Tryz.prog 221 #[.string ⟨d.toArray⟩,.int .u8 9] w fun e w'=>e=.returned (.string ⟨(jC true d).toArray⟩)∧w=w':=by
  go_enter Tryz.func221,Tryz.ntmps221;go_wp2;go_loop [0] (fun s=>∃u:List UInt8,u.length≤d.length∧s=.string ⟨u.toArray⟩∧jC true u=jC true d) (fun s=>match s with | .string b=>b.size|_=>0)
  case atStart=>exact⟨d,an _,rfl,rfl⟩
  case round=>
    obtain⟨u,hu,rfl,he⟩:=hrel;have HE:=aa he;clear he
    cases u with
    | nil=>
      go_wp2;go_ret;exact⟨by rw[←HE.out];rfl,by first|rfl|trivial⟩
    | cons b u=>
      have hL:∃h:0<(ByteArray.mk (b::u).toArray).size,(ByteArray.mk (b::u).toArray)[0]'h=b:=⟨by show 0<(b::u).length;simp,rfl⟩;obtain⟨hL3,hL4⟩:=hL;have u1:(0:Int)<((b::u).length:Int):=by simp
      have u2:(b::u).length≤100000:=by omega
      have hex:(ByteArray.mk (b::u).toArray).extract 1 (u.length+1)=⟨u.toArray⟩:=by rw[dX,bP (by simp)];rfl
      cases h9:((b.toNat:Int)==9)
      ·have hb9:b.toNat≠9:=by simp at h9;omega
       have HT:=aa (show jC true (b::u)=b::u by unfold jC;rw[aE rfl,List.dropWhile_cons,aB (by simpa using hb9)]);clear hex hb9;go_wp2;go_ret;exact⟨by rw[←HE.out,HT.out];rfl,by first|rfl|trivial⟩
      ·have hb9:b.toNat=9:=by simp at h9;omega
       have HT:=aa (ac hex (show jC true (b::u)=jC true u by unfold jC;rw[aE rfl,aE rfl,List.dropWhile_cons,aE (by simpa using hb9)]));have hu':u.length≤d.length:=by simp at hu;omega
       clear hex hb9;go_wp2;exact⟨⟨u,hu',by rw[HT.out.1],by rw[←HT.out.2,HE.out]⟩,by rw[HT.out.1];show u.length<u.length+1;omega⟩
theorem Ea (hl:d.length≤100000) :
    Calls Tryz.prog 193 #[.string ⟨d.toArray⟩,.string ⟨#[9]⟩] w fun e w'=>e=.returned (.string ⟨(jC true d).toArray⟩)∧w=w':=by
  by_cases h0:d=[]
  ·subst h0;go_enter Tryz.func193,Tryz.ntmps193;go_wp2;go_ret;exact⟨rfl,rfl⟩
  have hb0:(d==[])=false:=by simpa using h0
  go_enter Tryz.func193,Tryz.ntmps193;go_wp2_with (
    (go_at_call 221;refine(Iv d _ hl).mono ?_;rintro e w2 ⟨rfl,rfl⟩))
  go_ret;exact⟨rfl,rfl⟩
theorem Gr (hl:l.length≤100000) (hx:x≤l.length) :
    Calls Tryz.prog 159 #[.string ⟨l.toArray⟩,.int .i64 (x:Int),.agg #[.string ⟨u.toArray⟩,.bool t]] w fun e w'=>e=.returned (.tuple #[.int .i64 ((fJ l x u t).1:Int),.bool (fJ l x u t).2])∧Below w.heap.size w w':=by
  obtain⟨H,hH⟩:∃H,H=fJ l x u t:=⟨_,rfl⟩;rw[←hH];have HH:=aa hH;clear hH;go_enter Tryz.func159,Tryz.ntmps159;go_wp2;obtain⟨w1,hw1⟩:∃w1,w1=w.alloc (.cells #[.string ⟨u.toArray⟩,.bool t] 124):=⟨_,rfl⟩;have hb1:Below w.heap.size w w1:=by rw[hw1];exact aZ (aD _ _) (an _) _
  have hk:Bk w1 w.heap.size 124 #[.string ⟨u.toArray⟩,.bool t]:=by rw[hw1];exact Bk.new _ _ _
  have y0:w1.cell? ⟨w.heap.size,0,none⟩=some (.string ⟨u.toArray⟩):=by rw[hk.cell];rfl
  have y1:w1.cell? ⟨w.heap.size,1,none⟩=some (.bool t):=by rw[hk.cell];rfl
  rw[←hw1];have H1:=aa hb1;clear hw1 hb1 hk;go_step3;go_wp2;go_step3;go_wp2;go_loop [1] (fun i=>∃k:Nat,k≤l.length∧i=.int .i64 k∧fJ l k u t=H) (fun i=>l.length-(intOf i).toNat)
  case atStart=>exact⟨x,hx,rfl,HH.out.symm⟩
  case round=>
    obtain⟨k,hk,rfl,he⟩:=hrel;have HE:=aa he;clear he;by_cases hlt:k<l.length
    ·have u1:(k:Int)<(l.length:Int):=by omega
     have u2:(0:Int)≤(k:Int):=by omega
     have hE:=mG l k hlt;have hN:=mF l k (by omega);obtain⟨n,hn⟩:∃n,n=fM l k:=⟨_,rfl⟩;obtain⟨m,hm⟩:∃m,m=lineE l k:=⟨_,rfl⟩;obtain⟨S,hS⟩:∃S,S=sub l k n:=⟨_,rfl⟩;have hSl:S.length≤100000:=by rw[hS];unfold sub;simp;omega
     have hext:(ByteArray.mk l.toArray).extract k n=⟨S.toArray⟩:=by rw[dX,hS];rfl
     have hstep:H=if jC t S=u then (m,true) else fJ l m u t:=by rw[←HE.out,gI,aE hlt,←hn,←hm,←hS]
     have hmm:m=if n<l.length then n+1 else n:=by rw[hm,hn];rfl
     rw[←hn] at hN;rw[←hm] at hE;have HX:=aa (ac hn (ac hext hstep));clear hn hm hS hext hstep;have v1:(k:Int)≤(n:Int):=by omega
     have v2:(n:Int)≤(l.length:Int):=by omega
     have hlist:((ByteArray.mk l.toArray).extract k n).toList=S:=by rw[HX.out.2.1,Lib.toList_data]
     have tb:∀b:Bool,(jC t S==u)=b→(t=false→(((ByteArray.mk l.toArray).extract k n).toList==u)=b)∧(t=true→(jC true S==u)=b)∧(b=false→H=fJ l m u t)∧(b=true→H=(m,true)):=by
       intro b hb;refine⟨fun ht=>by rw[hlist,←hb,ht];rfl,fun ht=>by rw[←hb,ht],fun h=>?_,fun h=>?_⟩
       ·subst h;rw[HX.out.2.2,aB (by simpa using hb)]
       ·subst h;rw[HX.out.2.2,aE (by simpa using hb)]
     by_cases hnl:n<l.length
     ·have c1:decide (fM l k<l.length)=true:=by rw[←HX.out.1];simpa using hnl
      have v3:m=n+1:=by rw[hmm,aE hnl]
      have HC:=aa (ac c1 v3);clear c1 v3 hmm hlist
      cases hb:(jC t S==u);all_goals (
        obtain⟨b1,b2,b3,b4⟩:=tb _ hb;have HB:=aa (ac b3 b4);clear tb hb b3 b4
        cases t;all_goals (
          first
            | (have b1:=b1 rfl;clear b2)
            | (have b2:=b2 rfl;clear b1)))
      all_goals (
        go_wp2_with (first
          | (go_at_call 164;refine(AX l k _ hl hk).mono ?_;rintro e w2 ⟨he,rfl⟩;rw[HC.out.1,←HX.out.1] at he;subst he)
          | (go_at_call 193;rw[HX.out.2.1];refine(Ea S _ hSl).mono ?_;rintro e w2 ⟨rfl,rfl⟩)))
      all_goals first
        | (try rw[bF]
           go_ret2
           have:=HC.out.2
           exact⟨by rw[HB.out.2 (by first|rfl|trivial),HC.out.2];rfl,H1.out⟩)
        | exact⟨⟨m,hE.2,by rw[HC.out.2];go_num,(HB.out.1 (by first|rfl|trivial)).symm⟩,by have:=HC.out.2;simp[intOf];omega⟩
     ·have c1:decide (fM l k<l.length)=false:=by rw[←HX.out.1];simpa using hnl
      have v3:m=n:=by rw[hmm,aB hnl]
      have HC:=aa (ac c1 v3);clear c1 v3 hmm hlist
      cases hb:(jC t S==u);all_goals (
        obtain⟨b1,b2,b3,b4⟩:=tb _ hb;have HB:=aa (ac b3 b4);clear tb hb b3 b4
        cases t;all_goals (
          first
            | (have b1:=b1 rfl;clear b2)
            | (have b2:=b2 rfl;clear b1)))
      all_goals (
        go_wp2_with (first
          | (go_at_call 164;refine(AX l k _ hl hk).mono ?_;rintro e w2 ⟨he,rfl⟩;rw[HC.out.1,←HX.out.1] at he;subst he)
          | (go_at_call 193;rw[HX.out.2.1];refine(Ea S _ hSl).mono ?_;rintro e w2 ⟨rfl,rfl⟩)))
      all_goals first
        | (try rw[bF]
           go_ret2
           have:=HC.out.2
           exact⟨by rw[HB.out.2 (by first|rfl|trivial),HC.out.2];rfl,H1.out⟩)
        | exact⟨⟨m,hE.2,by rw[HC.out.2],(HB.out.1 (by first|rfl|trivial)).symm⟩,by have:=HC.out.2;simp[intOf];omega⟩
    ·go_wp2;try rw[bF]
     go_ret2;exact⟨by rw[←HE.out,gI,aB hlt];rfl,H1.out⟩
theorem Af :
    Calls Tryz.prog 225 #[.string s,.string p] w fun e w'=>e=.returned (.bool (Lib.hasPrefix s.data.toList p.data.toList))∧w=w':=by
  rw[←Lib.hasPrefix_of_take,←Lib.size_eq,←Lib.size_eq];go_enter Tryz.func225,Tryz.ntmps225;go_wp2
  ·rename_i h;go_ret;refine⟨?_,rfl⟩;show Ending.returned (Value.bool ((s.extract 0 p.size).toList==p.toList))=_;rw[Lib.extract_toList,Lib.toList_data];simp[h]
  ·rename_i h;go_ret;refine⟨?_,rfl⟩;show Ending.returned (Value.bool false)=_;simp[h]
theorem E7 :
    Calls Tryz.prog 194 #[.string s,.string p] w fun e w'=>e=.returned (.bool (Lib.hasPrefix s.data.toList p.data.toList))∧w=w':=by
  go_enter Tryz.func194,Tryz.ntmps194;go_wp2_with (go_at_call 225;refine(Af _ _ _).mono ?_;rintro e w' ⟨rfl,rfl⟩);go_ret;exact⟨rfl,rfl⟩
theorem G7:Lib.hasPrefix (l.drop x) [92,10]=gV l x:=by
  unfold gV
  match h:l.drop x with
  | []=>
    have h1:¬x+1<l.length:=by have:=congrArg List.length h;simp at this;omega
    simp[Lib.hasPrefix,h1]
  | [a]=>
    have h1:¬x+1<l.length:=by have:=congrArg List.length h;simp at this;omega
    simp[Lib.hasPrefix,List.isPrefixOf,h1]
  | a::b::r=>
    have h1:x+1<l.length:=by have:=congrArg List.length h;simp at this;omega
    have e0:l.getD x 0=a:=by have:(l.drop x).getD 0 0=a:=by rw[h];rfl
                             rw[←this];simp[aF]
    have e1:l.getD (x+1) 0=b:=by have:(l.drop x).getD 1 0=b:=by rw[h];rfl
                                 rw[←this];simp[aF]
    rw[e0,e1,aJ h1];have ha:=fm (fun a=>((92:UInt8)==a)==(a.toNat==92)) (by decide +kernel) a;have hb:=fm (fun a=>((10:UInt8)==a)==(a.toNat==10)) (by decide +kernel) b;simp only[aR] at ha hb;show (((92:UInt8)==a)&&(((10:UInt8)==b)&&true))=(true&&a.toNat==92&&b.toNat==10);rw[ha,hb,Bool.and_true,cJ]
theorem wX (hl:l.length≤100000) (hx:x≤l.length) :
    Calls Tryz.prog 162 #[.string ⟨l.toArray⟩,.int .i64 (x:Int)] w fun e w'=>e=.returned (.bool (gV l x))∧w=w':=by
  have u1:(x:Int)≤(l.length:Int):=by omega
  have u2:(0:Int)≤(x:Int):=by omega
  have HP:=aa (show Lib.hasPrefix ((ByteArray.mk l.toArray).extract x l.length).data.toList [92,10]=gV l x by rw[dX,List.take_length];exact G7 l x);go_enter Tryz.func162,Tryz.ntmps162;go_wp2_with (
    (go_at_call 194;refine(E7 _ _ _).mono ?_;rintro e w' ⟨he,rfl⟩;replace he:=he.trans (congrArg (fun b=>Ending.returned (Value.bool b)) HP.out);subst he))
  go_ret;exact⟨rfl,rfl⟩
theorem rT (c:UInt8):(fp c==1)=gO c:=by
  have:=fm (fun c=>(fp c==1)==gO c) (by decide +kernel) c
  simpa using this
theorem Ka (hl:l.length≤100000) (hx:x≤l.length) :
    Calls Tryz.prog 163 #[.string ⟨l.toArray⟩,.int .i64 (x:Int)] w fun e w'=>e=.returned (.int .i64 (fE l x:Int))∧w=w':=by
  obtain⟨H,hH⟩:∃H,H=fE l x:=⟨_,rfl⟩;rw[←hH];have HH:=aa hH;clear hH;go_enter Tryz.func163,Tryz.ntmps163;go_wp2;go_loop [1] (fun i=>∃k:Nat,k≤l.length∧i=.int .i64 k∧fE l k=H) (fun i=>l.length-(intOf i).toNat)
  case atStart=>exact⟨x,hx,rfl,HH.out.symm⟩
  case round=>
    obtain⟨k,hk,rfl,he⟩:=hrel;by_cases hlt:k<l.length
    ·have u1:(k:Int)<(l.length:Int):=by omega
     have u2:(0:Int)≤(k:Int):=by omega
     obtain⟨d,hd⟩:∃d,l[k]? = some d:=⟨_,ax hlt⟩;obtain⟨hL1,hL2⟩:=aC.1 hd;have hL:∃h:k<(ByteArray.mk l.toArray).size,(ByteArray.mk l.toArray)[k]'h=d:=⟨hL1,hL2⟩;obtain⟨hL3,hL4⟩:=hL;have hg:l.getD k 0=d:=by rw[aF,hd];rfl
     rw[lj,aE hlt,hg] at he;clear hd hL2 hg
     cases hb:gO d
     ·have c1:(fp d==1)=false:=by rw[rT,hb]
      rw[aB (by rw[hb];decide)] at he
      cases hc:gV l k
      ·have HE:=aa (show k=H by rw[←he,aB (by rw[hc];decide)]);have HC:=aa hc;clear he hb hc
       go_wp2_with (first
         | (go_at_call 120;refine(uP _ _).mono ?_;rintro e w2 ⟨rfl,rfl⟩)
         | (go_at_call 162;refine(wX l k _ hl hk).mono ?_;rintro e w2 ⟨he,rfl⟩;rw[HC.out] at he;subst he))
       go_ret;exact⟨by rw[←HE.out];rfl,by first|rfl|trivial⟩
      ·have hc2:k+2≤l.length:=by unfold gV at hc;simp at hc;omega
       have HE:=aa (show fE l (k+2)=H by rw[←he,aE (by rw[hc])]);have HC:=aa hc;clear he hb hc
       go_wp2_with (first
         | (go_at_call 120;refine(uP _ _).mono ?_;rintro e w2 ⟨rfl,rfl⟩)
         | (go_at_call 162;refine(wX l k _ hl hk).mono ?_;rintro e w2 ⟨he,rfl⟩;rw[HC.out] at he;subst he))
       exact⟨⟨k+2,hc2,by go_num,HE.out⟩,by simp[intOf];omega⟩
     ·have c1:(fp d==1)=true:=by rw[rT,hb]
      have HE:=aa (show fE l (k+1)=H by rw[←he,aE hb]);clear he hb;go_wp2_with (
        (go_at_call 120;refine(uP _ _).mono ?_;rintro e w2 ⟨rfl,rfl⟩))
      exact⟨⟨k+1,by omega,by go_num,HE.out⟩,by simp[intOf];omega⟩
    ·have HE:=aa (show k=H by rw[←he,lj,aB hlt]);clear he;go_wp2;go_ret;exact⟨by rw[←HE.out];rfl,by first|rfl|trivial⟩
theorem yC (hl:l.length≤100000) (hx:x≤l.length) :
    Calls Tryz.prog 165 #[.string ⟨l.toArray⟩,.int .i64 (x:Int)] w fun e w'=>e=.returned (.int .i64 ((if mC l x=true then x+l9 l x else x:Nat):Int))∧w=w':=by
  have hsl:=iK gF l x;obtain⟨n,hn⟩:∃n,n=fC gF l x:=⟨_,rfl⟩;have hB:mC l x=(decide (0<n)&&decide (x+n<l.length)&&((l.getD (x+n) 0).toNat==60||(l.getD (x+n) 0).toNat==62)):=by unfold mC;rw[hn]
  have hR:(if mC l x=true then x+l9 l x else x:Nat)=if mC l x=true then x+n else x:=by rw[hn]
  rw[hR];obtain⟨r,hr⟩:∃r,r=if mC l x=true then x+n else x:=⟨_,rfl⟩;rw[←hr];rw[hB] at hr;have HH:=aa hn.symm;rw[←hn] at hsl;have hnx:n≤100000:=by omega
  clear hn hR hB hsl;by_cases h0:0<n
  ·have c0:(x:Int)<(x:Int)+(n:Int):=by omega
   by_cases h1:x+n<l.length
   ·have u1:(x:Int)+(n:Int)<(l.length:Int):=by omega
    have u2:(0:Int)≤(x:Int)+(n:Int):=by omega
    have u3:((x:Int)+(n:Int)).toNat=x+n:=by omega
    obtain⟨d,hd⟩:∃d,l[x+n]? = some d:=⟨_,ax h1⟩;obtain⟨hL1,hL2⟩:=aC.1 hd;have hL:∃h:x+n<(ByteArray.mk l.toArray).size,(ByteArray.mk l.toArray)[x+n]'h=d:=⟨hL1,hL2⟩;obtain⟨hL3,hL4⟩:=hL;have hg:l.getD (x+n) 0=d:=by rw[aF,hd];rfl
    rw[hg,aJ h0,aJ h1,cJ,cJ] at hr;have e60:((d.toNat:Int)==60)=(d.toNat==60):=by rw[aY];simp;omega
    have e62:((d.toNat:Int)==62)=(d.toNat==62):=by rw[aY];simp;omega
    cases h60:(d.toNat==60)
    ·cases h62:(d.toNat==62)
     ·rw[h60] at e60;rw[h62] at e62;rw[h60,h62] at hr;have HR:=aa (show Ending.returned (Value.int .i64 (x:Int))=Ending.returned (.int .i64 (r:Int)) by rw[show r=x from hr]);clear hr hd hL2 hg h60 h62;go_enter Tryz.func165,Tryz.ntmps165;go_wp2_with (
        (go_at_call 187;refine(ly l x _ (by omega) (by omega)).mono ?_;rintro e w2 ⟨he,rfl⟩;rw[HH.out] at he;subst he))
      go_ret;exact⟨HR.out,by first|rfl|trivial⟩
     ·rw[h60] at e60;rw[h62] at e62;rw[h60,h62] at hr;have HR:=aa (show Ending.returned (Value.int .i64 ((x:Int)+(n:Int)))=Ending.returned (.int .i64 (r:Int)) by rw[show r=x+n from hr];rfl);clear hr hd hL2 hg h60 h62;go_enter Tryz.func165,Tryz.ntmps165;go_wp2_with (
        (go_at_call 187;refine(ly l x _ (by omega) (by omega)).mono ?_;rintro e w2 ⟨he,rfl⟩;rw[HH.out] at he;subst he))
      go_ret;exact⟨HR.out,by first|rfl|trivial⟩
    ·rw[h60] at e60;rw[h60] at hr;have HR:=aa (show Ending.returned (Value.int .i64 ((x:Int)+(n:Int)))=Ending.returned (.int .i64 (r:Int)) by rw[show r=x+n from hr];rfl);clear hr hd hL2 hg e62 h60;go_enter Tryz.func165,Tryz.ntmps165;go_wp2_with (
       (go_at_call 187;refine(ly l x _ (by omega) (by omega)).mono ?_;rintro e w2 ⟨he,rfl⟩;rw[HH.out] at he;subst he))
     go_ret;exact⟨HR.out,by first|rfl|trivial⟩
   ·have u1:¬(x:Int)+(n:Int)<(l.length:Int):=by omega
    rw[aU h1] at hr;have HR:=aa (show Ending.returned (Value.int .i64 (x:Int))=Ending.returned (.int .i64 (r:Int)) by rw[show r=x from by simpa using hr]);clear hr;go_enter Tryz.func165,Tryz.ntmps165;go_wp2_with (
      (go_at_call 187;refine(ly l x _ (by omega) (by omega)).mono ?_;rintro e w2 ⟨he,rfl⟩;rw[HH.out] at he;subst he))
    go_ret;exact⟨HR.out,by first|rfl|trivial⟩
  ·have h0:n=0:=by omega
   subst h0;have HR:=aa (show Ending.returned (Value.int .i64 (x:Int))=Ending.returned (.int .i64 (r:Int)) by rw[show r=x from by simpa using hr]);clear hr;go_enter Tryz.func165,Tryz.ntmps165;go_wp2_with (
     (go_at_call 187;refine(ly l x _ (by omega) (by omega)).mono ?_;rintro e w2 ⟨he,rfl⟩;rw[HH.out] at he;subst he))
   go_ret;exact⟨HR.out,by first|rfl|trivial⟩
end Go.Proofs.YtcagfamdoaoimaaGreatDoor
