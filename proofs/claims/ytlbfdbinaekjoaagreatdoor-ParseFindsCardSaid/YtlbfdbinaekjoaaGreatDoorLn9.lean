/- The small functions of package token: line, here, continued, blank, number; and of the library's: strings.IndexByte, TrimLeft, HasPrefix. -/
import Derived.Test.YtlbfdbinaekjoaaGreatDoorCls
import Derived.Test.YtlbfdbinaekjoaaGreatDoorLa9
import Derived.Lib.Strings
import Derived.Lib.Slices
import Derived.Lib.Walk
import Derived.Lib.Bytealg
namespace Go.Proofs.YtlbfdbinaekjoaaGreatDoor
open Go.RowKit
set_option linter.unusedVariables false
set_option linter.unusedSimpArgs false
set_option maxRecDepth 100000
theorem idx10:∀d:List UInt8,Lib.indexByte d 10=if (d.takeWhile fun c=>c.toNat != 10).length<d.length then ((d.takeWhile fun c=>c.toNat != 10).length:Int) else -1
  | []=>rfl
  | b::d=>by
    unfold Lib.indexByte
    by_cases hb:b=10
    ·subst hb
     rfl
    ·have hb1:(b==10)=false:=by simpa using hb
     have hb2:(b.toNat != 10)=true:=by
       simp only[bne_iff_ne,ne_eq]
       exact fun h=>hb (UInt8.toNat_inj.1 h)
     rw[hb1,idx10 d,List.takeWhile_cons,if_pos hb2]
     simp only[Bool.false_eq_true,if_false,List.length_cons,Nat.add_lt_add_iff_right]
     split
     ·rename_i h
      have:(((d.takeWhile fun c=>c.toNat != 10).length:Int) == -1)=false:=by rw[beq_eq_false_iff_ne];omega
      rw[this]
      simp
     ·rfl
set_option maxHeartbeats 1000000 in
theorem stridx_m (s:ByteArray) (c:Int) (w:World) :
    Calls Tryz.prog 64 #[.string s,.int .u8 c] w fun e w'=>e=.returned (.int .i64 (Lib.indexByte s.data.toList c.toNat.toUInt8))∧w=w':=by
  go_enter Tryz.func64,Tryz.ntmps64
  go_wp2
  rw[run_callFunc_extern Tryz.func82 (by kernel_rfl) (by kernel_rfl) (by kernel_rfl) (e:=Extern.BytealgIndexByte.indexByte) (by kernel_rfl),Lib.run_indexByteString]
  simp only[Result.andThen]
  rw[Oper.upon_value]
  go_wp2
  go_ret
  exact⟨rfl,rfl⟩
theorem index_m (s:ByteArray) (c:Int) (w:World) :
    Calls Tryz.prog 56 #[.string s,.int .u8 c] w fun e w'=>e=.returned (.int .i64 (Lib.indexByte s.data.toList c.toNat.toUInt8))∧w=w':=by
  go_enter Tryz.func56,Tryz.ntmps56
  go_wp2_with (go_at_call 64;refine(stridx_m _ _ _).mono ?_;rintro e w' ⟨rfl,rfl⟩)
  go_ret
  exact⟨rfl,rfl⟩
theorem index10_m (l:List UInt8) (x:Nat) (w:World) (hx:x≤l.length) :
    Calls Tryz.prog 56 #[.string ((ByteArray.mk l.toArray).extract x l.length),.int .u8 10] w fun e w'=>e=.returned (.int .i64 (if lineN l x<l.length then ((lineN l x-x:Nat):Int) else -1))∧w=w':=by
  refine(index_m _ _ w).mono ?_
  rintro e w' ⟨rfl,rfl⟩
  refine⟨ret_int ?_,rfl⟩
  rw[ba_extract,List.take_length]
  show Lib.indexByte (l.drop x) 10=_
  rw[idx10]
  unfold lineN
  have:=(List.takeWhile_prefix (l:=l.drop x) (fun c=>c.toNat != 10)).length_le
  rw[List.length_drop] at this ⊢
  by_cases h:((l.drop x).takeWhile fun c=>c.toNat != 10).length<l.length-x
  ·rw[if_pos h,if_pos (by omega),Nat.add_sub_cancel_left]
  ·rw[if_neg h,if_neg (by omega)]
set_option maxHeartbeats 1000000 in
theorem line_m (l:List UInt8) (x:Nat) (w:World) (hl:l.length≤100000) (hx:x≤l.length) :
    Calls Tryz.prog 76 #[.string ⟨l.toArray⟩,.int .i64 (x:Int)] w fun e w'=>e=.returned (.tuple #[.int .i64 (lineN l x:Int),.bool (decide (lineN l x<l.length))])∧w=w':=by
  have u1:(x:Int)≤(l.length:Int):=by omega
  have u2:(0:Int)≤(x:Int):=by omega
  have hle:=lineN_le l x hx
  obtain⟨n,hn⟩:∃n,n=lineN l x:=⟨_,rfl⟩
  by_cases hlt:n<l.length
  ·have u3:(0:Int)≤((n-x:Nat):Int):=by omega
   have HN:=Lib.hid (And.intro hn hlt)
   have u4:n-x≤100000:=by omega
   have u5:x+(n-x)=n:=by omega
   rw[←hn,decide_eq_true hlt]
   clear hle hlt hn
   go_enter Tryz.func76,Tryz.ntmps76
   go_wp2_with (
     (go_at_call 56
      refine(index10_m l x _ (by omega)).mono ?_
      rintro e w2 ⟨he,rfl⟩
      rw[←HN.out.1,if_pos HN.out.2] at he
      subst he))
   go_ret2
   exact⟨by rw[show (x:Int)+((n-x:Nat):Int)=(n:Int) by omega];rfl,rfl⟩
  ·have u5:n=l.length:=by omega
   have HN:=Lib.hid (And.intro hn hlt)
   rw[←hn,decide_eq_false hlt]
   clear hle hlt hn
   go_enter Tryz.func76,Tryz.ntmps76
   go_wp2_with (
     (go_at_call 56
      refine(index10_m l x _ (by omega)).mono ?_
      rintro e w2 ⟨he,rfl⟩
      rw[←HN.out.1,if_neg HN.out.2] at he
      subst he))
   go_ret2
   exact⟨by rw[u5];rfl,rfl⟩
set_option maxHeartbeats 1000000 in
theorem trimb_m (d:List UInt8) (w:World) (hl:d.length≤100000) :
    Calls Tryz.prog 117 #[.string ⟨d.toArray⟩,.int .u8 9] w fun e w'=>e=.returned (.string ⟨(tabT true d).toArray⟩)∧w=w':=by
  go_enter Tryz.func117,Tryz.ntmps117
  go_wp2
  go_loop [0] (fun s=>∃u:List UInt8,u.length≤d.length∧s=.string ⟨u.toArray⟩∧tabT true u=tabT true d) (fun s=>match s with | .string b=>b.size|_=>0)
  case atStart=>exact⟨d,Nat.le_refl _,rfl,rfl⟩
  case round=>
    obtain⟨u,hu,rfl,he⟩:=hrel
    have HE:=Lib.hid he
    clear he
    cases u with
    | nil=>
      go_wp2
      go_ret
      exact⟨by rw[←HE.out];rfl,by first|rfl|trivial⟩
    | cons b u=>
      have hL:∃h:0<(ByteArray.mk (b::u).toArray).size,(ByteArray.mk (b::u).toArray)[0]'h=b:=⟨by show 0<(b::u).length;simp,rfl⟩
      obtain⟨hL3,hL4⟩:=hL
      have u1:(0:Int)<((b::u).length:Int):=by simp
      have u2:(b::u).length≤100000:=by omega
      have hex:(ByteArray.mk (b::u).toArray).extract 1 (u.length+1)=⟨u.toArray⟩:=by rw[ba_extract,List.take_of_length_le (by simp)];rfl
      cases h9:((b.toNat:Int)==9)
      ·have hb9:b.toNat≠9:=by simp at h9;omega
       have HT:=Lib.hid (show tabT true (b::u)=b::u by unfold tabT;rw[if_pos rfl,List.dropWhile_cons,if_neg (by simpa using hb9)])
       clear hex hb9
       go_wp2
       go_ret
       exact⟨by rw[←HE.out,HT.out];rfl,by first|rfl|trivial⟩
      ·have hb9:b.toNat=9:=by simp at h9;omega
       have HT:=Lib.hid (And.intro hex (show tabT true (b::u)=tabT true u by unfold tabT;rw[if_pos rfl,if_pos rfl,List.dropWhile_cons,if_pos (by simpa using hb9)]))
       have hu':u.length≤d.length:=by simp at hu;omega
       clear hex hb9
       go_wp2
       exact⟨⟨u,hu',by rw[HT.out.1],by rw[←HT.out.2,HE.out]⟩,by rw[HT.out.1];show u.length<u.length+1;omega⟩
theorem trim_m (d:List UInt8) (w:World) (hl:d.length≤100000) :
    Calls Tryz.prog 90 #[.string ⟨d.toArray⟩,.string ⟨#[9]⟩] w fun e w'=>e=.returned (.string ⟨(tabT true d).toArray⟩)∧w=w':=by
  by_cases h0:d=[]
  ·subst h0
   go_enter Tryz.func90,Tryz.ntmps90
   go_wp2
   go_ret
   exact⟨rfl,rfl⟩
  have hb0:(d==[])=false:=by simpa using h0
  go_enter Tryz.func90,Tryz.ntmps90
  go_wp2_with (
    (go_at_call 117
     refine(trimb_m d _ hl).mono ?_
     rintro e w2 ⟨rfl,rfl⟩))
  go_ret
  exact⟨rfl,rfl⟩
set_option maxHeartbeats 2000000 in
theorem here_m (l u:List UInt8) (t:Bool) (x:Nat) (w:World) (hl:l.length≤100000) (hx:x≤l.length) :
    Calls Tryz.prog 70 #[.string ⟨l.toArray⟩,.int .i64 (x:Int),.agg #[.string ⟨u.toArray⟩,.bool t]] w fun e w'=>e=.returned (.tuple #[.int .i64 ((hereL l x u t).1:Int),.bool (hereL l x u t).2])∧Below w.heap.size w w':=by
  obtain⟨H,hH⟩:∃H,H=hereL l x u t:=⟨_,rfl⟩
  rw[←hH]
  have HH:=Lib.hid hH
  clear hH
  go_enter Tryz.func70,Tryz.ntmps70
  go_wp2
  obtain⟨w1,hw1⟩:∃w1,w1=w.alloc (.cells #[.string ⟨u.toArray⟩,.bool t] 94):=⟨_,rfl⟩
  have hb1:Below w.heap.size w w1:=by rw[hw1];exact Below.alloc (Below.refl _ _) (Nat.le_refl _) _
  have hk:Bk w1 w.heap.size 94 #[.string ⟨u.toArray⟩,.bool t]:=by rw[hw1];exact Bk.new _ _ _
  have y0:w1.cell? ⟨w.heap.size,0,none⟩=some (.string ⟨u.toArray⟩):=by rw[hk.cell];rfl
  have y1:w1.cell? ⟨w.heap.size,1,none⟩=some (.bool t):=by rw[hk.cell];rfl
  rw[←hw1]
  have H1:=Lib.hid hb1
  clear hw1 hb1 hk
  go_step3
  go_wp2
  go_step3
  go_wp2
  go_loop [1] (fun i=>∃k:Nat,k≤l.length∧i=.int .i64 k∧hereL l k u t=H) (fun i=>l.length-(intOf i).toNat)
  case atStart=>exact⟨x,hx,rfl,HH.out.symm⟩
  case round=>
    obtain⟨k,hk,rfl,he⟩:=hrel
    have HE:=Lib.hid he
    clear he
    by_cases hlt:k<l.length
    ·have u1:(k:Int)<(l.length:Int):=by omega
     have u2:(0:Int)≤(k:Int):=by omega
     have hE:=lineE_le l k hlt
     have hN:=lineN_le l k (by omega)
     obtain⟨n,hn⟩:∃n,n=lineN l k:=⟨_,rfl⟩
     obtain⟨m,hm⟩:∃m,m=lineE l k:=⟨_,rfl⟩
     obtain⟨S,hS⟩:∃S,S=sub l k n:=⟨_,rfl⟩
     have hSl:S.length≤100000:=by rw[hS];unfold sub;simp;omega
     have hext:(ByteArray.mk l.toArray).extract k n=⟨S.toArray⟩:=by rw[ba_extract,hS];rfl
     have hstep:H=if tabT t S=u then (m,true) else hereL l m u t:=by rw[←HE.out,hereL_eq,if_pos hlt,←hn,←hm,←hS]
     have hmm:m=if n<l.length then n+1 else n:=by rw[hm,hn];rfl
     rw[←hn] at hN
     rw[←hm] at hE
     have HX:=Lib.hid (And.intro hn (And.intro hext hstep))
     clear hn hm hS hext hstep
     have v1:(k:Int)≤(n:Int):=by omega
     have v2:(n:Int)≤(l.length:Int):=by omega
     have hlist:((ByteArray.mk l.toArray).extract k n).toList=S:=by rw[HX.out.2.1,Lib.toList_data]
     have tb:∀b:Bool,(tabT t S==u)=b→(t=false→(((ByteArray.mk l.toArray).extract k n).toList==u)=b)∧(t=true→(tabT true S==u)=b)∧(b=false→H=hereL l m u t)∧(b=true→H=(m,true)):=by
       intro b hb
       refine⟨fun ht=>by rw[hlist,←hb,ht];rfl,fun ht=>by rw[←hb,ht],fun h=>?_,fun h=>?_⟩
       ·subst h;rw[HX.out.2.2,if_neg (by simpa using hb)]
       ·subst h;rw[HX.out.2.2,if_pos (by simpa using hb)]
     by_cases hnl:n<l.length
     ·have c1:decide (lineN l k<l.length)=true:=by rw[←HX.out.1];simpa using hnl
      have v3:m=n+1:=by rw[hmm,if_pos hnl]
      have HC:=Lib.hid (And.intro c1 v3)
      clear c1 v3 hmm hlist
      cases hb:(tabT t S==u)
      all_goals (
        obtain⟨b1,b2,b3,b4⟩:=tb _ hb
        have HB:=Lib.hid (And.intro b3 b4)
        clear tb hb b3 b4
        cases t
        all_goals (
          first
            | (have b1:=b1 rfl;clear b2)
            | (have b2:=b2 rfl;clear b1)))
      all_goals (
        go_wp2_with (first
          | (go_at_call 76
             refine(line_m l k _ hl hk).mono ?_
             rintro e w2 ⟨he,rfl⟩
             rw[HC.out.1,←HX.out.1] at he
             subst he)
          | (go_at_call 90
             rw[HX.out.2.1]
             refine(trim_m S _ hSl).mono ?_
             rintro e w2 ⟨rfl,rfl⟩)))
      all_goals first
        | (try rw[Exit.noGoto_ret]
           go_ret2
           have:=HC.out.2
           exact⟨by rw[HB.out.2 (by first|rfl|trivial),HC.out.2];rfl,H1.out⟩)
        | exact⟨⟨m,hE.2,by rw[HC.out.2];go_num,(HB.out.1 (by first|rfl|trivial)).symm⟩,by have:=HC.out.2;simp[intOf];omega⟩
     ·have c1:decide (lineN l k<l.length)=false:=by rw[←HX.out.1];simpa using hnl
      have v3:m=n:=by rw[hmm,if_neg hnl]
      have HC:=Lib.hid (And.intro c1 v3)
      clear c1 v3 hmm hlist
      cases hb:(tabT t S==u)
      all_goals (
        obtain⟨b1,b2,b3,b4⟩:=tb _ hb
        have HB:=Lib.hid (And.intro b3 b4)
        clear tb hb b3 b4
        cases t
        all_goals (
          first
            | (have b1:=b1 rfl;clear b2)
            | (have b2:=b2 rfl;clear b1)))
      all_goals (
        go_wp2_with (first
          | (go_at_call 76
             refine(line_m l k _ hl hk).mono ?_
             rintro e w2 ⟨he,rfl⟩
             rw[HC.out.1,←HX.out.1] at he
             subst he)
          | (go_at_call 90
             rw[HX.out.2.1]
             refine(trim_m S _ hSl).mono ?_
             rintro e w2 ⟨rfl,rfl⟩)))
      all_goals first
        | (try rw[Exit.noGoto_ret]
           go_ret2
           have:=HC.out.2
           exact⟨by rw[HB.out.2 (by first|rfl|trivial),HC.out.2];rfl,H1.out⟩)
        | exact⟨⟨m,hE.2,by rw[HC.out.2],(HB.out.1 (by first|rfl|trivial)).symm⟩,by have:=HC.out.2;simp[intOf];omega⟩
    ·go_wp2
     try rw[Exit.noGoto_ret]
     go_ret2
     exact⟨by rw[←HE.out,hereL_eq,if_neg hlt];rfl,H1.out⟩
end Go.Proofs.YtlbfdbinaekjoaaGreatDoor
