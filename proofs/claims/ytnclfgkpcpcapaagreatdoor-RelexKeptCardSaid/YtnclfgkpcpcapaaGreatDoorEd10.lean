/- Package edit: check, Do, Inverse; and the reference's Wrong, Do. -/
import Derived.Test.YtnclfgkpcpcapaaGreatDoorTk9
import Derived.Test.YtnclfgkpcpcapaaGreatDoorLa9
import Derived.BigQuiet
namespace Go.Proofs.YtnclfgkpcpcapaaGreatDoor
open Go.RowKit
set_option linter.unusedVariables false
set_option linter.unusedSimpArgs false
set_option maxRecDepth 100000
def okE (l d:List UInt8) (a:Int):Bool:=decide (0≤a)&&(decide (a≤(l.length:Int))&&Lib.hasPrefix (l.drop a.toNat) d)
abbrev edv (a:Int) (d i:List UInt8):Value:=.agg #[.int .i64 a,.string ⟨d.toArray⟩,.string ⟨i.toArray⟩]
def newL (l d i:List UInt8) (a:Int):List UInt8:=l.take a.toNat++(i++l.drop (a.toNat+d.length))
theorem okE_ed {l d:List UInt8} {a:Int} (h:okE l d a=true) (i:List UInt8):∃e:Ed,e.old=l∧e.new=newL l d i a∧(e.a.length:Int)=a∧e.d=d∧e.i=i:=by
  unfold okE at h
  simp only[Bool.and_eq_true,decide_eq_true_eq] at h
  obtain⟨h1,h2,h3⟩:=h
  obtain⟨c,hc⟩:=List.isPrefixOf_iff_prefix.1 (show d.isPrefixOf (l.drop a.toNat)=true from h3)
  have hl:(l.take a.toNat).length=a.toNat:=by rw[List.length_take];omega
  refine⟨⟨l.take a.toNat,d,i,c⟩,?_,?_,?_,rfl,rfl⟩
  ·show l.take a.toNat++(d++c)=l
   rw[hc,List.take_append_drop]
  ·show l.take a.toNat++(i++c)=l.take a.toNat++(i++l.drop (a.toNat+d.length))
   rw[←List.drop_drop,←hc,List.drop_left]
  ·show ((l.take a.toNat).length:Int)=a
   omega
theorem okE_len {l d:List UInt8} {a:Int} (h:okE l d a=true):0≤a∧a+d.length≤l.length:=by
  obtain⟨e,h1,_,h3,h4,_⟩:=okE_ed h []
  rw[←h1,←h3,←h4]
  unfold Ed.old
  simp only[List.length_append]
  omega
set_option maxHeartbeats 1000000 in
theorem check_m (l d i:List UInt8) (a:Int) (w:World) (hl:l.length≤100000) (hd:d.length≤100000) (hi:i.length≤100000) (ha : -9223372036854775808≤a∧a≤9223372036854775807) :
    Calls Tryz.prog 25 #[.string ⟨l.toArray⟩,edv a d i] w fun e w'=>e=.returned (.int .i64 (if okE l d a=true then 0 else 1))∧Below w.heap.size w w':=by
  have u9:¬(1048576:Int)-(i.length:Int)<(l.length:Int)-(d.length:Int):=by omega
  by_cases h1:a<0
  ·have e1:okE l d a=false:=by unfold okE;rw[decide_eq_false (by omega)];rfl
   have u1:decide (a<0)=true:=decide_eq_true h1
   rw[e1]
   clear e1
   go_enter Tryz.func25,Tryz.ntmps25
   go_wp2
   go_quiet (fail)
   all_goals go_wp2
   all_goals go_ret
   all_goals exact⟨rfl,below_drewN' (Below.alloc (Below.refl _ _) (Nat.le_refl _) _) _⟩
  ·by_cases h2:a≤(l.length:Int)
   ·obtain⟨x,rfl⟩:∃x:Nat,a=x:=⟨a.toNat,by omega⟩
    have hok:okE l d x=Lib.hasPrefix (l.drop x) d:=by unfold okE;rw[decide_eq_true (by omega),decide_eq_true h2];rfl
    rw[hok]
    have HP:∀W,Calls Tryz.prog 34 #[.string ((ByteArray.mk l.toArray).extract x l.length),.string ⟨d.toArray⟩] W fun e w'=>e=.returned (.bool (Lib.hasPrefix (l.drop x) d))∧W=w':=fun W=>by
      have h:=prefix_m ((ByteArray.mk l.toArray).extract x l.length) ⟨d.toArray⟩ W
      rwa [show Lib.hasPrefix ((ByteArray.mk l.toArray).extract x l.length).data.toList (ByteArray.mk d.toArray).data.toList=Lib.hasPrefix (l.drop x) d by rw[ba_extract,List.take_length]] at h
    generalize Lib.hasPrefix (l.drop x) d=r at HP ⊢
    have HQ:=Lib.hid HP
    clear HP
    have u1:decide ((x:Int)<0)=false:=decide_eq_false h1
    have u2:decide (l.length<x)=false:=decide_eq_false (by omega)
    have u4:(x:Int)≤(l.length:Int):=h2
    have u3:(0:Int)≤(x:Int):=by omega
    cases r
    all_goals
      go_enter Tryz.func25,Tryz.ntmps25
      go_wp2
      go_quiet ((go_at_call 34;exact Calls.quiet_of_same ((HQ.out _).mono fun e w2 h=>⟨h.1,h.2.symm⟩)))
    all_goals go_wp2
    all_goals go_ret
    all_goals exact⟨rfl,below_drewN' (Below.alloc (Below.refl _ _) (Nat.le_refl _) _) _⟩
   ·have e1:okE l d a=false:=by unfold okE;rw[decide_eq_false h2,Bool.false_and,Bool.and_false]
    have u1:decide (a<0)=false:=decide_eq_false h1
    have u2:decide ((l.length:Int)<a)=true:=decide_eq_true (by omega)
    rw[e1]
    clear e1
    go_enter Tryz.func25,Tryz.ntmps25
    go_wp2
    go_quiet (fail)
    all_goals go_wp2
    all_goals go_ret
    all_goals exact⟨rfl,below_drewN' (Below.alloc (Below.refl _ _) (Nat.le_refl _) _) _⟩
theorem new_ba (l d i:List UInt8) (x:Nat):((ByteArray.mk l.toArray).extract 0 x++ByteArray.mk i.toArray)++(ByteArray.mk l.toArray).extract (x+d.length) l.length=⟨(newL l d i x).toArray⟩:=by
  rw[ba_extract,ba_extract,ba_append,ba_append,List.take_length,List.drop_zero,List.append_assoc]
  rfl
set_option maxHeartbeats 1000000 in
theorem do_m (l d i:List UInt8) (a:Int) (w:World) (hl:l.length≤100000) (hd:d.length≤100000) (hi:i.length≤100000) (ha : -9223372036854775808≤a∧a≤9223372036854775807) :
    Calls Tryz.prog 13 #[.string ⟨l.toArray⟩,edv a d i] w fun e w'=>e=.returned (.tuple (if okE l d a=true then #[.string ⟨(newL l d i a).toArray⟩,.int .i64 0] else #[.string ⟨#[]⟩,.int .i64 1]))∧Below w.heap.size w w':=by
  have hc:∀W,Calls Tryz.prog 25 #[.string ⟨l.toArray⟩,edv a d i] W fun e w'=>e=.returned (.int .i64 (if okE l d a=true then 0 else 1))∧Below W.heap.size W w':=fun W=>check_m l d i a W hl hd hi ha
  cases hr:okE l d a
  ·rw[hr] at hc
   have HC:=Lib.hid hc
   clear hc hr
   go_enter Tryz.func13,Tryz.ntmps13
   go_wp2_with (
     (go_at_call 25
      refine(HC.out _).mono ?_
      rintro e w2 ⟨rfl,hb⟩
      have H2:=Lib.hid hb
      clear hb
      simp only[Bool.false_eq_true,if_false]))
   refine bodyPost_ret (results_tmp2 rfl _ _ _) rfl ?_
   exact⟨rfl,(Below.alloc (Below.refl _ _) (Nat.le_refl _) _).trans (H2.out.mono (by simp))⟩
  ·rw[hr] at hc
   have HC:=Lib.hid hc
   obtain⟨h1,h2⟩:=okE_len hr
   obtain⟨x,rfl⟩:∃x:Nat,a=x:=⟨a.toNat,by omega⟩
   clear hc hr
   have u1:(0:Int)≤(x:Int):=h1
   have u2:(x:Int)≤(l.length:Int):=by omega
   have u3:(x:Int)+(d.length:Int)≤(l.length:Int):=by omega
   have u4:(0:Int)≤(x:Int)+(d.length:Int):=by omega
   go_enter Tryz.func13,Tryz.ntmps13
   go_wp2_with (
     (go_at_call 25
      refine(HC.out _).mono ?_
      rintro e w2 ⟨rfl,hb⟩
      have c0:w2.cell? ⟨w.heap.size,0,none⟩=some (.int .i64 (x:Int)):=by rw[((Bk.new w _ _).below hb (by simp)).cell];rfl
      have c1:w2.cell? ⟨w.heap.size,1,none⟩=some (.string ⟨d.toArray⟩):=by rw[((Bk.new w _ _).below hb (by simp)).cell];rfl
      have c2:w2.cell? ⟨w.heap.size,2,none⟩=some (.string ⟨i.toArray⟩):=by rw[((Bk.new w _ _).below hb (by simp)).cell];rfl
      have H2:=Lib.hid hb
      clear hb
      simp only[if_true]))
   go_quiet (fail)
   all_goals go_wp2
   all_goals refine bodyPost_ret (results_tmp2 rfl _ _ _) rfl ?_
   all_goals exact⟨by rw[←new_ba];rfl,below_drewN' ((Below.alloc (Below.refl _ _) (Nat.le_refl _) _).trans (H2.out.mono (by simp))) _⟩
set_option maxHeartbeats 1000000 in
theorem rdo_m (l d i:List UInt8) (a:Int) (w:World) (hl:l.length≤100000) (hd:d.length≤100000) (hi:i.length≤100000) (hr:okE l d a=true) :
    Calls Tryz.prog 9 #[.string ⟨l.toArray⟩,edv a d i] w fun e w'=>e=.returned (.string ⟨(newL l d i a).toArray⟩)∧Below w.heap.size w w':=by
  obtain⟨h1,h2⟩:=okE_len hr
  obtain⟨x,rfl⟩:∃x:Nat,a=x:=⟨a.toNat,by omega⟩
  clear hr
  have u1:(0:Int)≤(x:Int):=h1
  have u2:(x:Int)≤(l.length:Int):=by omega
  have u3:(x:Int)+(d.length:Int)≤(l.length:Int):=by omega
  have u4:(0:Int)≤(x:Int)+(d.length:Int):=by omega
  go_enter Tryz.func9,Tryz.ntmps9
  go_wp2
  go_quiet (fail)
  all_goals go_wp2
  all_goals go_ret
  all_goals exact⟨by rw[←new_ba];rfl,below_drewN' (Below.alloc (Below.refl _ _) (Nat.le_refl _) _) _⟩
theorem okE_cut {l d:List UInt8} {x:Nat} (hx:x≤l.length) (hd:x+d.length≤l.length):okE l d (x:Int)=((l.drop x).take d.length==d):=by
  unfold okE
  rw[decide_eq_true (by omega),decide_eq_true (by omega),Bool.true_and,Bool.true_and]
  show d.isPrefixOf (l.drop x)=_
  rw[Bool.eq_iff_iff,List.isPrefixOf_iff_prefix,List.prefix_iff_eq_take,beq_iff_eq]
  exact eq_comm
theorem okE_short {l d:List UInt8} {x:Nat} (hd:¬x+d.length≤l.length):okE l d (x:Int)=false:=by
  cases h:okE l d (x:Int) with
  | false=>rfl
  | true=>have:=(okE_len h).2;omega
set_option maxHeartbeats 1000000 in
theorem wrong_m (l d i:List UInt8) (a:Int) (w:World) (hl:l.length≤100000) (hd:d.length≤100000) (hi:i.length≤100000) (ha : -9223372036854775808≤a∧a≤9223372036854775807) :
    Calls Tryz.prog 5 #[.string ⟨l.toArray⟩,edv a d i] w fun e w'=>e=.returned (.int .i64 (if okE l d a=true then 0 else 1))∧Below w.heap.size w w':=by
  have u9:¬(1048576:Int)<(l.length:Int)-(d.length:Int)+(i.length:Int):=by omega
  by_cases h1:a<0
  ·have e1:okE l d a=false:=by unfold okE;rw[decide_eq_false (by omega)];rfl
   have u1:decide (a<0)=true:=decide_eq_true h1
   rw[e1]
   clear e1
   go_enter Tryz.func5,Tryz.ntmps5
   go_wp2
   go_quiet (fail)
   all_goals go_wp2
   all_goals go_ret
   all_goals exact⟨rfl,below_drewN' (Below.alloc (Below.refl _ _) (Nat.le_refl _) _) _⟩
  ·by_cases h2:a≤(l.length:Int)
   ·obtain⟨x,rfl⟩:∃x:Nat,a=x:=⟨a.toNat,by omega⟩
    have u1:decide ((x:Int)<0)=false:=decide_eq_false h1
    have u2:decide (l.length<x)=false:=decide_eq_false (by omega)
    have u3:(0:Int)≤(x:Int):=by omega
    have u4:(x:Int)≤(l.length:Int):=h2
    by_cases h3:x+d.length≤l.length
    ·have u5:decide ((l.length:Int)-(x:Int)<(d.length:Int))=false:=decide_eq_false (by omega)
     have u6:(x:Int)+(d.length:Int)≤(l.length:Int):=by omega
     have u7:(x:Int)≤(x:Int)+(d.length:Int):=by omega
     have hE:(((ByteArray.mk l.toArray).extract x (x+d.length)).toList==d)=okE l d (x:Int):=by
       rw[okE_cut (by omega) h3,ba_extract,Lib.toList_data,List.drop_take]
       simp
     go_enter Tryz.func5,Tryz.ntmps5
     go_wp2
     go_quiet (fail)
     clear hE
     cases hb:okE l d (x:Int)
     all_goals go_wp2
     all_goals go_ret
     all_goals exact⟨rfl,below_drewN' (Below.alloc (Below.refl _ _) (Nat.le_refl _) _) _⟩
    ·have u5:decide ((l.length:Int)-(x:Int)<(d.length:Int))=true:=decide_eq_true (by omega)
     rw[okE_short h3]
     go_enter Tryz.func5,Tryz.ntmps5
     go_wp2
     go_quiet (fail)
     all_goals go_wp2
     all_goals go_ret
     all_goals exact⟨rfl,below_drewN' (Below.alloc (Below.refl _ _) (Nat.le_refl _) _) _⟩
   ·have e1:okE l d a=false:=by unfold okE;rw[decide_eq_false h2,Bool.false_and,Bool.and_false]
    have u1:decide (a<0)=false:=decide_eq_false h1
    have u2:decide ((l.length:Int)<a)=true:=decide_eq_true (by omega)
    rw[e1]
    clear e1
    go_enter Tryz.func5,Tryz.ntmps5
    go_wp2
    go_quiet (fail)
    all_goals go_wp2
    all_goals go_ret
    all_goals exact⟨rfl,below_drewN' (Below.alloc (Below.refl _ _) (Nat.le_refl _) _) _⟩
end Go.Proofs.YtnclfgkpcpcapaaGreatDoor
