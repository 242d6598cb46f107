/- The small functions of package token: line, here, continued, blank, number; and of the library's: strings.IndexByte, TrimLeft, HasPrefix. -/
import Derived.Test.YtmclohkaiemnaaaGreatDoorCls
import Derived.Test.YtmclohkaiemnaaaGreatDoorLa9
import Derived.Lib.Strings
import Derived.Lib.Slices
import Derived.Lib.Walk
import Derived.Lib.Bytealg
set_option linter.unusedVariables false
set_option linter.unusedSimpArgs false
set_option maxRecDepth 100000
set_option maxHeartbeats 8000000
namespace Go.Proofs.YtmclohkaiemnaaaGreatDoor
open Go.RowKit
variable (l u:List UInt8) (s:ByteArray) (t:Bool) (d:List UInt8) (c:Int) (x:Nat) (w:World)
theorem K4:∀d:List UInt8,Lib.indexByte d 10=if (d.takeWhile fun c=>c.toNat != 10).length<d.length then ((d.takeWhile fun c=>c.toNat != 10).length:Int) else -1
  | []=>rfl
  | b::d=>by
    unfold Lib.indexByte;by_cases hb:b=10
    ·subst hb;rfl
    ·have hb1:(b==10)=false:=by simpa using hb
     have hb2:(b.toNat != 10)=true:=by
       simp only[bne_iff_ne,ne_eq];exact fun h=>hb (dE.1 h)
     rw[hb1,K4 d,cR,aB hb2];simp only[aH,bp,aL,Nat.add_lt_add_iff_right];split
     ·rename_i h
      have:(((d.takeWhile fun c=>c.toNat != 10).length:Int) == -1)=false:=by rw[aK];omega
      rw[this];simp
     ·rfl
theorem D9 :
    ls 141 #[.string s,.int .u8 c] w (.int .i64 (Lib.indexByte s.data.toList c.toNat.toUInt8)):=by
  go_enter Tryz.func141,Tryz.ntmps141;go_wp2;rw[run_callFunc_extern Tryz.func171 (by kernel_rfl) (by kernel_rfl) (by kernel_rfl) (e:=Extern.BytealgIndexByte.indexByte) (by kernel_rfl),Lib.run_indexByteString];simp only[Result.andThen];rw[Oper.upon_value];go_wp2;go_ret;exact⟨rfl,rfl⟩
theorem BX :
    ls 117 #[.string s,.int .u8 c] w (.int .i64 (Lib.indexByte s.data.toList c.toNat.toUInt8)):=by
  go_enter Tryz.func117,Tryz.ntmps117;go_wp2_with (go_at_call 141;refine(D9 _ _ _).mono ?_;rintro e w' ⟨rfl,rfl⟩);go_ret;exact⟨rfl,rfl⟩
theorem vg (hx:x≤l.length) :
    ls 117 #[.string ((ByteArray.mk l.toArray).extract x l.length),.int .u8 10] w (.int .i64 (if gM l x<l.length then ((gM l x-x:Nat):Int) else -1)):=by
  refine(BX _ _ w).mono ?_;rintro e w' ⟨rfl,rfl⟩;refine⟨oo ?_,rfl⟩;rw[fq,dc];show Lib.indexByte (l.drop x) 10=_;rw[K4];unfold gM
  have:=(List.takeWhile_prefix (l:=l.drop x) (fun c=>c.toNat != 10)).length_le
  rw[aZ] at this ⊢;by_cases h:((l.drop x).takeWhile fun c=>c.toNat != 10).length<l.length-x
  ·rw[aB h,aB (by omega),dI]
  ·rw[aC h,aC (by omega)]
theorem Aw (hl:l.length≤100000) (hx:x≤l.length) :
    ls 112 #[.string ⟨l.toArray⟩,.int .i64 (x:Int)] w (.tuple #[.int .i64 (gM l x:Int),.bool (decide (gM l x<l.length))]):=by
  have u1:(x:Int)≤(l.length:Int):=by omega
  have u2:(0:Int)≤(x:Int):=by omega
  have hle:=nK l x hx;obtain⟨n,hn⟩:∃n,n=gM l x:=⟨_,rfl⟩;by_cases hlt:n<l.length
  ·have u3:(0:Int)≤((n-x:Nat):Int):=by omega
   have HN:=ac (ae hn hlt);have u4:n-x≤100000:=by omega
   have u5:x+(n-x)=n:=by omega
   rw[←hn,aG hlt];clear hle hlt hn;go_enter Tryz.func112,Tryz.ntmps112;go_wp2_with (
     (go_at_call 117;refine(vg l x _ (by omega)).mono ?_;rintro e w2 ⟨he,rfl⟩;rw[←HN.out.1,aB HN.out.2] at he;subst he))
   go_ret2;exact⟨by rw[show (x:Int)+((n-x:Nat):Int)=(n:Int) by omega];rfl,rfl⟩
  ·have u5:n=l.length:=by omega
   have HN:=ac (ae hn hlt);rw[←hn,aE hlt];clear hle hlt hn;go_enter Tryz.func112,Tryz.ntmps112;go_wp2_with (
     (go_at_call 117;refine(vg l x _ (by omega)).mono ?_;rintro e w2 ⟨he,rfl⟩;rw[←HN.out.1,aC HN.out.2] at he;subst he))
   go_ret2;exact⟨by rw[u5];rfl,rfl⟩
theorem Il (hl:d.length≤100000) :
    ls 149 #[.string ⟨d.toArray⟩,.int .u8 9] w (.string ⟨(ni true d).toArray⟩):=by
  go_enter Tryz.func149,Tryz.ntmps149;go_wp2;go_loop [0] (fun s=>∃u:List UInt8,u.length≤d.length∧s=.string ⟨u.toArray⟩∧ni true u=ni true d) (fun s=>match s with | .string b=>b.size|_=>0)
  case atStart=>exact⟨d,au _,rfl,rfl⟩
  case round=>
    obtain⟨u,hu,rfl,he⟩:=hrel;have HE:=ac he;clear he
    cases u with
    | nil=>
      go_wp2;go_ret;exact⟨by rw[←HE.out];rfl,by first|rfl|trivial⟩
    | cons b u=>
      have hL:∃h:0<(ByteArray.mk (b::u).toArray).size,(ByteArray.mk (b::u).toArray)[0]'h=b:=⟨by show 0<(b::u).length;simp,rfl⟩;obtain⟨hL3,hL4⟩:=hL;have u1:(0:Int)<((b::u).length:Int):=by simp
      have u2:(b::u).length≤100000:=by omega
      have hex:(ByteArray.mk (b::u).toArray).extract 1 (u.length+1)=⟨u.toArray⟩:=by rw[fq,bR (by simp)];rfl
      cases h9:((b.toNat:Int)==9)
      ·have hb9:b.toNat≠9:=by simp at h9;omega
       have HT:=ac (show ni true (b::u)=b::u by unfold ni;rw[aB rfl,List.dropWhile_cons,aC (by simpa using hb9)]);clear hex hb9;go_wp2;go_ret;exact⟨by rw[←HE.out,HT.out];rfl,by first|rfl|trivial⟩
      ·have hb9:b.toNat=9:=by simp at h9;omega
       have HT:=ac (ae hex (show ni true (b::u)=ni true u by unfold ni;rw[aB rfl,aB rfl,List.dropWhile_cons,aB (by simpa using hb9)]));have hu':u.length≤d.length:=by simp at hu;omega
       clear hex hb9;go_wp2;exact⟨⟨u,hu',by rw[HT.out.1],by rw[←HT.out.2,HE.out]⟩,by rw[HT.out.1];show u.length<u.length+1;omega⟩
theorem DL (hl:d.length≤100000) :
    ls 129 #[.string ⟨d.toArray⟩,.string ⟨#[9]⟩] w (.string ⟨(ni true d).toArray⟩):=by
  by_cases h0:d=[]
  ·subst h0;go_enter Tryz.func129,Tryz.ntmps129;go_wp2;go_ret;exact⟨rfl,rfl⟩
  have hb0:(d==[])=false:=by simpa using h0
  go_enter Tryz.func129,Tryz.ntmps129;go_wp2_with (
    (go_at_call 149;refine(Il d _ hl).mono ?_;rintro e w2 ⟨rfl,rfl⟩))
  go_ret;exact⟨rfl,rfl⟩
theorem F3 (hl:l.length≤100000) (hx:x≤l.length) :
    jJ 106 #[.string ⟨l.toArray⟩,.int .i64 (x:Int),.agg #[.string ⟨u.toArray⟩,.bool t]] w (.tuple #[.int .i64 ((iD l x u t).1:Int),.bool (iD l x u t).2]):=by
  obtain⟨H,hH⟩:∃H,H=iD l x u t:=⟨_,rfl⟩;rw[←hH];have HH:=ac hH;clear hH;go_enter Tryz.func106,Tryz.ntmps106;go_wp2;obtain⟨w1,hw1⟩:∃w1,w1=w.alloc (.cells #[.string ⟨u.toArray⟩,.bool t] 120):=⟨_,rfl⟩;have hb1:Below w.heap.size w w1:=by rw[hw1];exact br (ay _ _) (au _) _
  have hk:Bk w1 w.heap.size 120 #[.string ⟨u.toArray⟩,.bool t]:=by rw[hw1];exact Bk.new _ _ _
  have y0:w1.cell? ⟨w.heap.size,0,none⟩=some (.string ⟨u.toArray⟩):=by rw[hk.cell];rfl
  have y1:w1.cell? ⟨w.heap.size,1,none⟩=some (.bool t):=by rw[hk.cell];rfl
  rw[←hw1];have H1:=ac hb1;clear hw1 hb1 hk;go_step3;go_wp2;go_step3;go_wp2;go_loop [1] (fun i=>∃k:Nat,k≤l.length∧i=.int .i64 k∧iD l k u t=H) (fun i=>l.length-(intOf i).toNat)
  case atStart=>exact⟨x,hx,rfl,HH.out.symm⟩
  case round=>
    obtain⟨k,hk,rfl,he⟩:=hrel;have HE:=ac he;clear he;by_cases hlt:k<l.length
    ·have u1:(k:Int)<(l.length:Int):=by omega
     have u2:(0:Int)≤(k:Int):=by omega
     have hE:=ml l k hlt;have hN:=nK l k (by omega);obtain⟨n,hn⟩:∃n,n=gM l k:=⟨_,rfl⟩;obtain⟨m,hm⟩:∃m,m=lineE l k:=⟨_,rfl⟩;obtain⟨S,hS⟩:∃S,S=sub l k n:=⟨_,rfl⟩;have hSl:S.length≤100000:=by rw[hS];unfold sub;simp;omega
     have hext:(ByteArray.mk l.toArray).extract k n=⟨S.toArray⟩:=by rw[fq,hS];rfl
     have hstep:H=if ni t S=u then (m,true) else iD l m u t:=by rw[←HE.out,iY,aB hlt,←hn,←hm,←hS]
     have hmm:m=if n<l.length then n+1 else n:=by rw[hm,hn];rfl
     rw[←hn] at hN;rw[←hm] at hE;have HX:=ac (ae hn (ae hext hstep));clear hn hm hS hext hstep;have v1:(k:Int)≤(n:Int):=by omega
     have v2:(n:Int)≤(l.length:Int):=by omega
     have hlist:((ByteArray.mk l.toArray).extract k n).toList=S:=by rw[HX.out.2.1,Lib.toList_data]
     have tb:∀b:Bool,(ni t S==u)=b→(t=false→(((ByteArray.mk l.toArray).extract k n).toList==u)=b)∧(t=true→(ni true S==u)=b)∧(b=false→H=iD l m u t)∧(b=true→H=(m,true)):=by
       intro b hb;refine⟨fun ht=>by rw[hlist,←hb,ht];rfl,fun ht=>by rw[←hb,ht],fun h=>?_,fun h=>?_⟩
       ·subst h;rw[HX.out.2.2,aC (by simpa using hb)]
       ·subst h;rw[HX.out.2.2,aB (by simpa using hb)]
     by_cases hnl:n<l.length
     ·have c1:decide (gM l k<l.length)=true:=by rw[←HX.out.1];simpa using hnl
      have v3:m=n+1:=by rw[hmm,aB hnl]
      have HC:=ac (ae c1 v3);clear c1 v3 hmm hlist
      cases hb:(ni t S==u);all_goals (
        obtain⟨b1,b2,b3,b4⟩:=tb _ hb;have HB:=ac (ae b3 b4);clear tb hb b3 b4
        cases t;all_goals (
          first
            | (have b1:=b1 rfl;clear b2)
            | (have b2:=b2 rfl;clear b1)))
      all_goals (
        go_wp2_with (first
          | (go_at_call 112;refine(Aw l k _ hl hk).mono ?_;rintro e w2 ⟨he,rfl⟩;rw[HC.out.1,←HX.out.1] at he;subst he)
          | (go_at_call 129;rw[HX.out.2.1];refine(DL S _ hSl).mono ?_;rintro e w2 ⟨rfl,rfl⟩)))
      all_goals first
        | (try rw[bK]
           go_ret2
           have:=HC.out.2
           exact⟨by rw[HB.out.2 (by first|rfl|trivial),HC.out.2];rfl,H1.out⟩)
        | exact⟨⟨m,hE.2,by rw[HC.out.2];go_num,(HB.out.1 (by first|rfl|trivial)).symm⟩,by have:=HC.out.2;simp[intOf];omega⟩
     ·have c1:decide (gM l k<l.length)=false:=by rw[←HX.out.1];simpa using hnl
      have v3:m=n:=by rw[hmm,aC hnl]
      have HC:=ac (ae c1 v3);clear c1 v3 hmm hlist
      cases hb:(ni t S==u);all_goals (
        obtain⟨b1,b2,b3,b4⟩:=tb _ hb;have HB:=ac (ae b3 b4);clear tb hb b3 b4
        cases t;all_goals (
          first
            | (have b1:=b1 rfl;clear b2)
            | (have b2:=b2 rfl;clear b1)))
      all_goals (
        go_wp2_with (first
          | (go_at_call 112;refine(Aw l k _ hl hk).mono ?_;rintro e w2 ⟨he,rfl⟩;rw[HC.out.1,←HX.out.1] at he;subst he)
          | (go_at_call 129;rw[HX.out.2.1];refine(DL S _ hSl).mono ?_;rintro e w2 ⟨rfl,rfl⟩)))
      all_goals first
        | (try rw[bK]
           go_ret2
           have:=HC.out.2
           exact⟨by rw[HB.out.2 (by first|rfl|trivial),HC.out.2];rfl,H1.out⟩)
        | exact⟨⟨m,hE.2,by rw[HC.out.2],(HB.out.1 (by first|rfl|trivial)).symm⟩,by have:=HC.out.2;simp[intOf];omega⟩
    ·go_wp2;try rw[bK]
     go_ret2;exact⟨by rw[←HE.out,iY,aC hlt];rfl,H1.out⟩
end Go.Proofs.YtmclohkaiemnaaaGreatDoor
