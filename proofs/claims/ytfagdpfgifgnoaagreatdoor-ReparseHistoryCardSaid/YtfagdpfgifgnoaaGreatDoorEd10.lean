/- Package edit: check, Do, Inverse; and the reference's Wrong, Do. -/
import Derived.Test.YtfagdpfgifgnoaaGreatDoorTk9
import Derived.Test.YtfagdpfgifgnoaaGreatDoorLa9
import Derived.BigQuiet
set_option linter.unusedVariables false
set_option linter.unusedSimpArgs false
set_option maxRecDepth 100000
set_option maxHeartbeats 8000000
namespace Go.Proofs.YtfagdpfgifgnoaaGreatDoor
open Go.RowKit
def lE (l d:List UInt8) (a:Int):Bool:=decide (0≤a)&&(decide (a≤(l.length:Int))&&Lib.hasPrefix (l.drop a.toNat) d)
abbrev zy (a:Int) (d i:List UInt8):Value:=.agg #[.int .i64 a,.string ⟨d.toArray⟩,.string ⟨i.toArray⟩]
def mt (l d i:List UInt8) (a:Int):List UInt8:=l.take a.toNat++(i++l.drop (a.toNat+d.length))
theorem tF {l d:List UInt8} {a:Int} (h:lE l d a=true) (i:List UInt8):∃e:Ed,e.old=l∧e.new=mt l d i a∧(e.a.length:Int)=a∧e.d=d∧e.i=i:=by
  unfold lE at h;simp only[Bool.and_eq_true,decide_eq_true_eq] at h;obtain⟨h1,h2,h3⟩:=h;obtain⟨c,hc⟩:=List.isPrefixOf_iff_prefix.1 (show d.isPrefixOf (l.drop a.toNat)=true from h3);have hl:(l.take a.toNat).length=a.toNat:=by rw[List.length_take];omega
  refine⟨⟨l.take a.toNat,d,i,c⟩,?_,?_,?_,rfl,rfl⟩
  ·show l.take a.toNat++(d++c)=l;rw[hc,List.take_append_drop]
  ·show l.take a.toNat++(i++c)=l.take a.toNat++(i++l.drop (a.toNat+d.length));rw[←List.drop_drop,←hc,List.drop_left]
  ·show ((l.take a.toNat).length:Int)=a;omega
theorem BP {l d:List UInt8} {a:Int} (h:lE l d a=true):0≤a∧a+d.length≤l.length:=by
  obtain⟨e,h1,_,h3,h4,_⟩:=tF h [];rw[←h1,←h3,←h4];unfold Ed.old;simp only[List.length_append];omega
theorem CE (l d i:List UInt8) (a:Int) (w:World) (hl:l.length≤100000) (hd:d.length≤100000) (hi:i.length≤100000) (ha : -9223372036854775808≤a∧a≤9223372036854775807) :
    iE 90 #[.string ⟨l.toArray⟩,zy a d i] w (.int .i64 (if lE l d a=true then 0 else 1)):=by
  have u9:¬(1048576:Int)-(i.length:Int)<(l.length:Int)-(d.length:Int):=by omega
  by_cases h1:a<0
  ·have e1:lE l d a=false:=by unfold lE;rw[decide_eq_false (by omega)];rfl
   have u1:decide (a<0)=true:=decide_eq_true h1;rw[e1];clear e1;go_enter Tryz.func90,Tryz.ntmps90;go_wp2;go_quiet (fail);all_goals go_wp2
   all_goals go_ret
   all_goals exact⟨rfl,ae (Below.alloc (Below.refl _ _) (Nat.le_refl _) _) _⟩
  ·by_cases h2:a≤(l.length:Int)
   ·obtain⟨x,rfl⟩:∃x:Nat,a=x:=⟨a.toNat,by omega⟩;have hok:lE l d x=Lib.hasPrefix (l.drop x) d:=by unfold lE;rw[decide_eq_true (by omega),decide_eq_true h2];rfl
    rw[hok];have HP:∀W,iA 108 #[.string ((ByteArray.mk l.toArray).extract x l.length),.string ⟨d.toArray⟩] W (.bool (Lib.hasPrefix (l.drop x) d)):=fun W=>by
      have h:=rj ((ByteArray.mk l.toArray).extract x l.length) ⟨d.toArray⟩ W
      rwa [show Lib.hasPrefix ((ByteArray.mk l.toArray).extract x l.length).data.toList (ByteArray.mk d.toArray).data.toList=Lib.hasPrefix (l.drop x) d by rw[aS,List.take_length]] at h
    generalize Lib.hasPrefix (l.drop x) d=r at HP ⊢;have HQ:=Lib.hid HP;clear HP;have u1:decide ((x:Int)<0)=false:=decide_eq_false h1;have u2:decide (l.length<x)=false:=decide_eq_false (by omega);have u4:(x:Int)≤(l.length:Int):=h2;have u3:(0:Int)≤(x:Int):=by omega
    cases r
    all_goals
      go_enter Tryz.func90,Tryz.ntmps90;go_wp2;go_quiet ((go_at_call 108;exact Calls.quiet_of_same ((HQ.out _).mono fun e w2 h=>⟨h.1,h.2.symm⟩)))
    all_goals go_wp2
    all_goals go_ret
    all_goals exact⟨rfl,ae (Below.alloc (Below.refl _ _) (Nat.le_refl _) _) _⟩
   ·have e1:lE l d a=false:=by unfold lE;rw[decide_eq_false h2,Bool.false_and,Bool.and_false]
    have u1:decide (a<0)=false:=decide_eq_false h1;have u2:decide ((l.length:Int)<a)=true:=decide_eq_true (by omega);rw[e1];clear e1;go_enter Tryz.func90,Tryz.ntmps90;go_wp2;go_quiet (fail);all_goals go_wp2
    all_goals go_ret
    all_goals exact⟨rfl,ae (Below.alloc (Below.refl _ _) (Nat.le_refl _) _) _⟩
theorem DW (l d i:List UInt8) (x:Nat):((ByteArray.mk l.toArray).extract 0 x++ByteArray.mk i.toArray)++(ByteArray.mk l.toArray).extract (x+d.length) l.length=⟨(mt l d i x).toArray⟩:=by
  rw[aS,aS,oW,oW,List.take_length,List.drop_zero,List.append_assoc];rfl
theorem Fz (l d i:List UInt8) (a:Int) (w:World) (hl:l.length≤100000) (hd:d.length≤100000) (hi:i.length≤100000) (ha : -9223372036854775808≤a∧a≤9223372036854775807) :
    iE 66 #[.string ⟨l.toArray⟩,zy a d i] w (.tuple (if lE l d a=true then #[.string ⟨(mt l d i a).toArray⟩,.int .i64 0] else #[.string ⟨#[]⟩,.int .i64 1])):=by
  have hc:∀W,iE 90 #[.string ⟨l.toArray⟩,zy a d i] W (.int .i64 (if lE l d a=true then 0 else 1)):=fun W=>CE l d i a W hl hd hi ha
  cases hr:lE l d a
  ·rw[hr] at hc;have HC:=Lib.hid hc;clear hc hr;go_enter Tryz.func66,Tryz.ntmps66;go_wp2_with (
     (go_at_call 90;refine(HC.out _).mono ?_;rintro e w2 ⟨rfl,hb⟩;have H2:=Lib.hid hb;clear hb;simp only[Bool.false_eq_true,if_false]))
   refine bodyPost_ret (results_tmp2 rfl _ _ _) rfl ?_;exact⟨rfl,(Below.alloc (Below.refl _ _) (Nat.le_refl _) _).trans (H2.out.mono (by simp))⟩
  ·rw[hr] at hc;have HC:=Lib.hid hc;obtain⟨h1,h2⟩:=BP hr;obtain⟨x,rfl⟩:∃x:Nat,a=x:=⟨a.toNat,by omega⟩;clear hc hr;have u1:(0:Int)≤(x:Int):=h1;have u2:(x:Int)≤(l.length:Int):=by omega
   have u3:(x:Int)+(d.length:Int)≤(l.length:Int):=by omega
   have u4:(0:Int)≤(x:Int)+(d.length:Int):=by omega
   go_enter Tryz.func66,Tryz.ntmps66;go_wp2_with (
     (go_at_call 90;refine(HC.out _).mono ?_;rintro e w2 ⟨rfl,hb⟩;have c0:w2.cell? ⟨w.heap.size,0,none⟩=some (.int .i64 (x:Int)):=by rw[((Bk.new w _ _).below hb (by simp)).cell];rfl
      have c1:w2.cell? ⟨w.heap.size,1,none⟩=some (.string ⟨d.toArray⟩):=by rw[((Bk.new w _ _).below hb (by simp)).cell];rfl
      have c2:w2.cell? ⟨w.heap.size,2,none⟩=some (.string ⟨i.toArray⟩):=by rw[((Bk.new w _ _).below hb (by simp)).cell];rfl
      have H2:=Lib.hid hb;clear hb;simp only[if_true]))
   go_quiet (fail);all_goals go_wp2
   all_goals refine bodyPost_ret (results_tmp2 rfl _ _ _) rfl ?_
   all_goals exact⟨by rw[←DW];rfl,ae ((Below.alloc (Below.refl _ _) (Nat.le_refl _) _).trans (H2.out.mono (by simp))) _⟩
theorem GC (d i:List UInt8) (a:Int) (w:World) :
    iE 16 #[zy a d i] w (zy a i d):=by
  go_enter Tryz.func16,Tryz.ntmps16;go_wp2;refine bodyPost_ret (v:=zy a i d) (by simp[results,Tryz.results16,go_sem]) rfl ⟨rfl,?_⟩
  exact(Below.alloc (Below.refl _ _) (Nat.le_refl _) _).alloc (by simp) _
theorem BQ {l d:List UInt8} {x:Nat} (hx:x≤l.length) (hd:x+d.length≤l.length):lE l d (x:Int)=((l.drop x).take d.length==d):=by
  unfold lE;rw[decide_eq_true (by omega),decide_eq_true (by omega),Bool.true_and,Bool.true_and];show d.isPrefixOf (l.drop x)=_;rw[Bool.eq_iff_iff,List.isPrefixOf_iff_prefix,List.prefix_iff_eq_take,beq_iff_eq];exact eq_comm
end Go.Proofs.YtfagdpfgifgnoaaGreatDoor
