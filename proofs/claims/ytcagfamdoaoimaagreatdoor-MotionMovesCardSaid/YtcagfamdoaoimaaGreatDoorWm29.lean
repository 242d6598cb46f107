/- MotionMoves: the walk. -/
import Derived.Test.YtcagfamdoaoimaaGreatDoorMw29
import Derived.Test.YtcagfamdoaoimaaGreatDoorZs29
set_option linter.unusedVariables false
set_option linter.unusedSimpArgs false
set_option maxRecDepth 100000
set_option maxHeartbeats 8000000
namespace Go.Proofs.YtcagfamdoaoimaaGreatDoor
section
open Go.RowKit
attribute [local go_sem] Oper.semAt_some
theorem Ij (l:List UInt8) (a k:Int) (w:World) (hl0:l.length≤9223372036854775807) (_ : -9223372036854775808≤a∧a≤9223372036854775807) (_ : -9223372036854775808≤k∧k≤9223372036854775807) :
    jL 9 #[.string ⟨l.toArray⟩,.int .i64 a,.int .i64 k] w (.bool true):=by
  by_cases hl:l.length≤60
  ·have hl9:l.length≤900:=by omega
   have hok:=pR l k hl9;have c1:=fun W=>Ld l hl9 a k W
   have c2:=fun W=>Li l hl9 a k W
   have c3:=fun W=>Hv l hl9 a k W
   have c4:=fun W=>rV l a k hok W
   have c5:=fun W=>Ih l a k hok W
   have c6:=fun W=>EO l hl9 a W
   obtain⟨m,hm,hmn⟩:=Bl l.length a;have c7:=fun W=>sN l m k W hl9 hmn
   rw[hm] at c1 c2 c3 c4 c5 c6;unfold xC at c1 c2 c3 c7;generalize gU (jy l k) (l.length:Int)=S at *;generalize pE S (l.length:Int) (m:Int)=A at *;generalize sJ S (m:Int)=Bk1 at *;obtain⟨b,hb⟩:∃b,b=decide ((m:Int)∈S):=⟨_,rfl⟩;rw[←hb] at c7;have hif:(if (m:Int)∈S then (m:Int) else Bk1)=if b=true then (m:Int) else Bk1:=by rw[hb];simp
   rw[hif] at c3;clear hif hb;have t0:decide (60<(l.length:Int))=false:=by simp;omega
   cases b
   case' false=>rw[aB Bool.false_ne_true] at c3
   case' true=>rw[aD rfl] at c3
   all_goals (
     have H:=aa (ac c1 (ac c2 (ac c3 (ac c4 (ac c5 (ac c6 c7))))));clear c1 c2 c3 c4 c5 c6 c7 hok hm;go_enter Tryz.func9,Tryz.ntmps9
     go_wp2_with (first
       | (go_at_call 18;refine(oS _).mono ?_;rintro e w1 ⟨rfl,hb⟩;have H1:=aa hb;clear hb)
       | (go_at_call 25;with_reducible refine(H.out.1 _).mono ?_
          rintro e w2 ⟨rfl,hb⟩;have H2:=aa (H1.out.trans (hb.mono H1.out.size));clear hb)
       | (go_at_call 26;with_reducible refine(H.out.2.1 _).mono ?_
          rintro e w3 ⟨rfl,hb⟩;have H3:=aa (H2.out.trans (hb.mono H2.out.size));clear hb)
       | (go_at_call 27;with_reducible refine(H.out.2.2.1 _).mono ?_
          rintro e w4 ⟨rfl,hb⟩;have H4:=aa (H3.out.trans (hb.mono H3.out.size));clear hb)
       | (go_at_call 23;with_reducible refine(H.out.2.2.2.1 _).mono ?_
          rintro e w5 ⟨rfl,hb⟩;have H5:=aa (H4.out.trans (hb.mono H4.out.size));clear hb)
       | (go_at_call 24;with_reducible refine(H.out.2.2.2.2.1 _).mono ?_
          rintro e w6 ⟨rfl,hb⟩;have H6:=aa (H5.out.trans (hb.mono H5.out.size));clear hb)
       | (go_at_call 28;with_reducible refine(H.out.2.2.2.2.2.1 _).mono ?_
          rintro e w7 ⟨rfl,rfl⟩)
       | (go_at_call 20;with_reducible refine(H.out.2.2.2.2.2.2 _).mono ?_
          rintro e w8 ⟨rfl,hb⟩;have H8:=aa (H6.out.trans (hb.mono H6.out.size));clear hb)
       | fail)
     go_ret;exact⟨by simp,H8.out⟩)
  ·have t0:decide (60<(l.length:Int))=true:=by simp;omega
   go_enter Tryz.func9,Tryz.ntmps9;go_wp2_with (
     (go_at_call 18;refine(oS _).mono ?_;rintro e w1 ⟨rfl,hb⟩;have H1:=aa hb;clear hb))
   go_ret;exact⟨rfl,H1.out⟩
end
end Go.Proofs.YtcagfamdoaoimaaGreatDoor
