/- MotionMates: the walk. -/
import Derived.Test.YtcagfamdoaoimaaGreatDoorRm29
import Derived.Test.YtcagfamdoaoimaaGreatDoorZm29
set_option linter.unusedVariables false
set_option linter.unusedSimpArgs false
set_option maxRecDepth 100000
set_option maxHeartbeats 8000000
namespace Go.Proofs.YtcagfamdoaoimaaGreatDoor
open Go.RowKit
theorem motionMates_w (l:List UInt8) (a:Int) (w:World) (hl0:l.length≤9223372036854775807) (_ : -9223372036854775808≤a∧a≤9223372036854775807) :
    Calls Tryz.prog 6 #[.string ⟨l.toArray⟩,.int .i64 a] w fun e w'=>e=.returned (.bool true)∧Below w.heap.size w w':=by
  by_cases hl:l.length≤60
  ·have hl9:l.length≤900:=by omega
   have c1:=fun W=>Mu l (pair_ok l hl9) hl9 a W
   have c2:=fun W=>rmate_m l hl9 a W
   have hp:=fun v h=>mateR_pos (l:=l) (a:=a) (v:=v) h
   have t0:decide (60<(l.length:Int))=false:=by simp;omega
   generalize sf (Jc l) a=z at *
   cases z with
   | none=>
     simp only[Option.getD_none,Option.isSome_none] at c1 c2;have H:=aa (ac c1 c2);clear c1 c2 hp;go_enter Tryz.func6,Tryz.ntmps6
     go_wp2_with (first
       | (go_at_call 18;refine(oS _).mono ?_;rintro e w1 ⟨rfl,hb⟩;have H1:=aa hb;clear hb)
       | (go_at_call 21;refine(H.out.1 _).mono ?_;rintro e w2 ⟨rfl,hb⟩;have H2:=aa (H1.out.trans (hb.mono H1.out.size));clear hb)
       | (go_at_call 22;refine(H.out.2 _).mono ?_;rintro e w3 ⟨rfl,hb⟩;have H3:=aa (H2.out.trans (hb.mono H2.out.size));clear hb)
       | fail)
     go_ret;exact⟨rfl,H3.out⟩
   | some v=>
     simp only[Option.getD_some,Option.isSome_some] at c1 c2;have hv:=hp v rfl;have t1:decide (v<0)=false:=by simpa using hv
     have H:=aa (ac c1 c2);clear c1 c2 hp;go_enter Tryz.func6,Tryz.ntmps6
     go_wp2_with (first
       | (go_at_call 18;refine(oS _).mono ?_;rintro e w1 ⟨rfl,hb⟩;have H1:=aa hb;clear hb)
       | (go_at_call 21;refine(H.out.1 _).mono ?_;rintro e w2 ⟨rfl,hb⟩;have H2:=aa (H1.out.trans (hb.mono H1.out.size));clear hb)
       | (go_at_call 22;refine(H.out.2 _).mono ?_;rintro e w3 ⟨rfl,hb⟩;have H3:=aa (H2.out.trans (hb.mono H2.out.size));clear hb)
       | fail)
     go_ret;exact⟨by simp,H3.out⟩
  ·have t0:decide (60<(l.length:Int))=true:=by simp;omega
   go_enter Tryz.func6,Tryz.ntmps6;go_wp2_with (
     (go_at_call 18;refine(oS _).mono ?_;rintro e w1 ⟨rfl,hb⟩;have H1:=aa hb;clear hb))
   go_ret;exact⟨rfl,H1.out⟩
end Go.Proofs.YtcagfamdoaoimaaGreatDoor
