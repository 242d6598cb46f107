/- Motion: between: the stops of a kind, but for 0 and the length. -/
import Derived.Test.YtgdifhhioahakaaGreatDoorCo29
import Derived.Test.YtgdifhhioahakaaGreatDoorLv29
namespace Go.Proofs.YtgdifhhioahakaaGreatDoor
open Go.RowKit
set_option linter.unusedVariables false
set_option linter.unusedSimpArgs false
set_option maxRecDepth 100000
attribute [local go_sem] Oper.semAt_some
def btwB (l:List UInt8) (k:Int):List Nat:=
  if k=1 then bndK (fun _ _=>true) l l.length else if k=2 then bndK (fun a b => !solidB a&&solidB b) l l.length
  else if k=3 then bndK (fun a b=>emptyB a && !emptyB b) l l.length else if k=6 then bndK (fun a _=>a==10) l l.length
  else if k=4 then lvB l else if k=5 then cmdL l else []
theorem nil_it (w:World):IterI 48 #[] [] w:=by
  refine⟨enters_of Tryz.func48 (by kernel_rfl) rfl,fun W0 hW0=>?_⟩
  intro n l' J Jx W hW hF _ hY hJ
  have H:=Lib.hid hJ
  clear hJ hY hF
  refine callsIn_of_wp Tryz.func48 rfl trivial ?_ rfl
  simp only[Tryz.ntmps48,List.size_toArray,List.length_cons,List.length_nil,Nat.reduceAdd,Nat.reduceSub,Array.replicate_succ,Array.replicate_zero,List.push_toArray,List.append_toArray,List.nil_append,List.cons_append]
  gi_wp2_with fail
  go_end0
  exact⟨⟨_,rfl⟩,.inl ⟨_,_,rfl,H.out⟩⟩
theorem between_m (l:List UInt8) (hok:CmdOk l) (hl:l.length≤900) (k:Int) (w:World) :
    Calls Tryz.prog 22 #[.string ⟨l.toArray⟩,.int .i64 k] w fun e w'=>∃gf lb,e=.returned (.func (.func gf) #[] lb)∧IterI gf lb (btwB l k) w'∧Below w.heap.size w w':=by
  have HO:=Lib.hid hok
  clear hok
  have key:k=1∨k=2∨k=3∨k=6∨k=4∨k=5∨((k==1)=false∧(k==2)=false∧(k==3)=false∧(k==6)=false∧(k==4)=false∧(k==5)=false∧btwB l k=[]):=by
    by_cases h1:k=1
    ·exact .inl h1
    by_cases h2:k=2
    ·exact .inr (.inl h2)
    by_cases h3:k=3
    ·exact .inr (.inr (.inl h3))
    by_cases h6:k=6
    ·exact .inr (.inr (.inr (.inl h6)))
    by_cases h4:k=4
    ·exact .inr (.inr (.inr (.inr (.inl h4))))
    by_cases h5:k=5
    ·exact .inr (.inr (.inr (.inr (.inr (.inl h5)))))
    ·exact .inr (.inr (.inr (.inr (.inr (.inr ⟨beq_false_of_ne h1,beq_false_of_ne h2,beq_false_of_ne h3,beq_false_of_ne h6,beq_false_of_ne h4,beq_false_of_ne h5,by unfold btwB;rw[if_neg h1,if_neg h2,if_neg h3,if_neg h6,if_neg h4,if_neg h5]⟩)))))
  rcases key with rfl|rfl|rfl|rfl|rfl|rfl|⟨t1,t2,t3,t6,t4,t5,hE⟩
  all_goals (
    go_enter Tryz.func22,Tryz.ntmps22
    go_wp2_with (
      (first
        | (go_at_call 46;with_reducible refine(leaves_it l hl _).mono ?_)
        | (go_at_call 47;with_reducible refine(commands_it l HO.out hl _).mono ?_)
        | (go_at_call 39;with_reducible (first
            | refine(bounds_it l hl _ _ beg1 _).mono ?_
            | refine(bounds_it l hl _ _ beg2 _).mono ?_
            | refine(bounds_it l hl _ _ beg3 _).mono ?_
            | refine(bounds_it l hl _ _ beg4 _).mono ?_)))
      rintro e w2 ⟨gf,lb,rfl,h1,h2⟩
      have H1:=Lib.hid (And.intro h1 h2)
      clear h1 h2))
  all_goals go_ret
  all_goals first
    | exact⟨_,_,rfl,H1.out⟩
    | exact⟨_,_,rfl,by rw[hE];exact nil_it _,Below.refl _ _⟩
end Go.Proofs.YtgdifhhioahakaaGreatDoor
