/- Package edit: check, Do, Inverse; and the reference's Wrong, Do. -/
import Derived.Test.YtmclohkaiemnaaaGreatDoorTk9
import Derived.Test.YtmclohkaiemnaaaGreatDoorLa9
import Derived.BigQuiet
set_option linter.unusedVariables false
set_option linter.unusedSimpArgs false
set_option maxRecDepth 100000
set_option maxHeartbeats 8000000
namespace Go.Proofs.YtmclohkaiemnaaaGreatDoor
open Go.RowKit
def yh (l d:List UInt8) (a:Int):Bool:=decide (0≤a)&&(decide (a≤(l.length:Int))&&Lib.hasPrefix (l.drop a.toNat) d)
abbrev NQ (a:Int) (d i:List UInt8):Value:=.agg #[.int .i64 a,.string ⟨d.toArray⟩,.string ⟨i.toArray⟩]
def C2 (l d i:List UInt8) (a:Int):List UInt8:=l.take a.toNat++(i++l.drop (a.toNat+d.length))
theorem L5 {l d:List UInt8} {a:Int} (h:yh l d a=true) (i:List UInt8):∃e:Ed,e.old=l∧e.new=C2 l d i a∧(e.a.length:Int)=a∧e.d=d∧e.i=i:=by
  unfold yh at h;simp only[aR,bT] at h;obtain⟨h1,h2,h3⟩:=h;obtain⟨c,hc⟩:=List.isPrefixOf_iff_prefix.1 (show d.isPrefixOf (l.drop a.toNat)=true from h3);have hl:(l.take a.toNat).length=a.toNat:=by rw[bz];omega
  refine⟨⟨l.take a.toNat,d,i,c⟩,?_,?_,?_,rfl,rfl⟩
  ·show l.take a.toNat++(d++c)=l;rw[hc,cE]
  ·show l.take a.toNat++(i++c)=l.take a.toNat++(i++l.drop (a.toNat+d.length));rw[←dN,←hc,List.drop_left]
  ·show ((l.take a.toNat).length:Int)=a;omega
theorem Jq {l d:List UInt8} {a:Int} (h:yh l d a=true):0≤a∧a+d.length≤l.length:=by
  obtain⟨e,h1,_,h3,h4,_⟩:=L5 h [];rw[←h1,←h3,←h4];unfold Ed.old;simp only[aD];omega
theorem Ki (l d i:List UInt8) (a:Int) (w:World) (hl:l.length≤100000) (hd:d.length≤100000) (hi:i.length≤100000) (ha : -9223372036854775808≤a∧a≤9223372036854775807) :
    jJ 76 #[.string ⟨l.toArray⟩,NQ a d i] w (.int .i64 (if yh l d a=true then 0 else 1)):=by
  have u9:¬(1048576:Int)-(i.length:Int)<(l.length:Int)-(d.length:Int):=by omega
  by_cases h1:a<0
  ·have e1:yh l d a=false:=by unfold yh;rw[aE (by omega)];rfl
   have u1:decide (a<0)=true:=aG h1;rw[e1];clear e1;go_enter Tryz.func76,Tryz.ntmps76;go_wp2;go_quiet (fail);all_goals go_wp2
   all_goals go_ret
   all_goals exact⟨rfl,dX (br (ay _ _) (au _) _) _⟩
  ·by_cases h2:a≤(l.length:Int)
   ·obtain⟨x,rfl⟩:∃x:Nat,a=x:=⟨a.toNat,by omega⟩;have hok:yh l d x=Lib.hasPrefix (l.drop x) d:=by unfold yh;rw[aG (by omega),aG h2];rfl
    rw[hok];have HP:∀W,ls 94 #[.string ((ByteArray.mk l.toArray).extract x l.length),.string ⟨d.toArray⟩] W (.bool (Lib.hasPrefix (l.drop x) d)):=fun W=>by
      have h:=xV ((ByteArray.mk l.toArray).extract x l.length) ⟨d.toArray⟩ W
      rwa [show Lib.hasPrefix ((ByteArray.mk l.toArray).extract x l.length).data.toList (ByteArray.mk d.toArray).data.toList=Lib.hasPrefix (l.drop x) d by rw[fq,dc]] at h
    generalize Lib.hasPrefix (l.drop x) d=r at HP ⊢;have HQ:=ac HP;clear HP;have u1:decide ((x:Int)<0)=false:=aE h1;have u2:decide (l.length<x)=false:=aE (by omega);have u4:(x:Int)≤(l.length:Int):=h2;have u3:(0:Int)≤(x:Int):=by omega
    cases r
    all_goals
      go_enter Tryz.func76,Tryz.ntmps76;go_wp2;go_quiet ((go_at_call 94;exact Calls.quiet_of_same ((HQ.out _).mono fun e w2 h=>⟨h.1,h.2.symm⟩)))
    all_goals go_wp2
    all_goals go_ret
    all_goals exact⟨rfl,dX (br (ay _ _) (au _) _) _⟩
   ·have e1:yh l d a=false:=by unfold yh;rw[aE h2,dC,Bool.and_false]
    have u1:decide (a<0)=false:=aE h1;have u2:decide ((l.length:Int)<a)=true:=aG (by omega);rw[e1];clear e1;go_enter Tryz.func76,Tryz.ntmps76;go_wp2;go_quiet (fail);all_goals go_wp2
    all_goals go_ret
    all_goals exact⟨rfl,dX (br (ay _ _) (au _) _) _⟩
theorem L8 (l d i:List UInt8) (x:Nat):((ByteArray.mk l.toArray).extract 0 x++ByteArray.mk i.toArray)++(ByteArray.mk l.toArray).extract (x+d.length) l.length=⟨(C2 l d i x).toArray⟩:=by
  rw[fq,fq,mF,mF,dc,dO,aW];rfl
theorem Oz (l d i:List UInt8) (a:Int) (w:World) (hl:l.length≤100000) (hd:d.length≤100000) (hi:i.length≤100000) (ha : -9223372036854775808≤a∧a≤9223372036854775807) :
    jJ 53 #[.string ⟨l.toArray⟩,NQ a d i] w (.tuple (if yh l d a=true then #[.string ⟨(C2 l d i a).toArray⟩,.int .i64 0] else #[.string ⟨#[]⟩,.int .i64 1])):=by
  have hc:∀W,jJ 76 #[.string ⟨l.toArray⟩,NQ a d i] W (.int .i64 (if yh l d a=true then 0 else 1)):=fun W=>Ki l d i a W hl hd hi ha
  cases hr:yh l d a
  ·rw[hr] at hc;have HC:=ac hc;clear hc hr;go_enter Tryz.func53,Tryz.ntmps53;go_wp2_with (
     (go_at_call 76;refine(HC.out _).mono ?_;rintro e w2 ⟨rfl,hb⟩;have H2:=ac hb;clear hb;simp only[aH,bp]))
   refine bu (results_tmp2 rfl _ _ _) rfl ?_;exact⟨rfl,(br (ay _ _) (au _) _).trans (H2.out.mono (by simp))⟩
  ·rw[hr] at hc;have HC:=ac hc;obtain⟨h1,h2⟩:=Jq hr;obtain⟨x,rfl⟩:∃x:Nat,a=x:=⟨a.toNat,by omega⟩;clear hc hr;have u1:(0:Int)≤(x:Int):=h1;have u2:(x:Int)≤(l.length:Int):=by omega
   have u3:(x:Int)+(d.length:Int)≤(l.length:Int):=by omega
   have u4:(0:Int)≤(x:Int)+(d.length:Int):=by omega
   go_enter Tryz.func53,Tryz.ntmps53;go_wp2_with (
     (go_at_call 76;refine(HC.out _).mono ?_;rintro e w2 ⟨rfl,hb⟩;have c0:w2.cell? ⟨w.heap.size,0,none⟩=some (.int .i64 (x:Int)):=by rw[((Bk.new w _ _).below hb (by simp)).cell];rfl
      have c1:w2.cell? ⟨w.heap.size,1,none⟩=some (.string ⟨d.toArray⟩):=by rw[((Bk.new w _ _).below hb (by simp)).cell];rfl
      have c2:w2.cell? ⟨w.heap.size,2,none⟩=some (.string ⟨i.toArray⟩):=by rw[((Bk.new w _ _).below hb (by simp)).cell];rfl
      have H2:=ac hb;clear hb;simp only[bP]))
   go_quiet (fail);all_goals go_wp2
   all_goals refine bu (results_tmp2 rfl _ _ _) rfl ?_
   all_goals exact⟨by rw[←L8];rfl,dX ((br (ay _ _) (au _) _).trans (H2.out.mono (by simp))) _⟩
theorem Jr {l d:List UInt8} {x:Nat} (hx:x≤l.length) (hd:x+d.length≤l.length):yh l d (x:Int)=((l.drop x).take d.length==d):=by
  unfold yh;rw[aG (by omega),aG (by omega),cN,cN];show d.isPrefixOf (l.drop x)=_;rw[cT,List.isPrefixOf_iff_prefix,List.prefix_iff_eq_take,bA];exact eq_comm
end Go.Proofs.YtmclohkaiemnaaaGreatDoor
