/- Motion: Forward and Back. -/
import Derived.Test.YtgdifhhioahakaaGreatDoorSo29
namespace Go.Proofs.YtgdifhhioahakaaGreatDoor
open Go.RowKit
set_option linter.unusedVariables false
set_option linter.unusedSimpArgs false
set_option maxRecDepth 100000
attribute [local go_sem] Oper.semAt_some
theorem within_m (l:List UInt8) (a:Int) (w:World) :
    Calls Tryz.prog 24 #[.string ⟨l.toArray⟩,.int .i64 a] w fun e w'=>e=.returned (.int .i64 (inM (l.length:Int) a))∧w'=w:=by
  unfold inM
  by_cases h1:a<0
  ·have e1:max a 0=0:=by omega
   have e2:min (0:Int) (l.length:Int)=0:=by omega
   rw[e1,e2]
   by_cases h2:(l.length:Int)<0
   ·omega
   ·by_cases h3:(0:Int)<(l.length:Int)
    all_goals (
      go_enter Tryz.func24,Tryz.ntmps24
      go_wp2
      go_ret
      refine⟨?_,rfl⟩
      try simp only[Ending.returned.injEq,Value.int.injEq,true_and]
      try omega
      try rfl)
  ·have e1:max a 0=a:=by omega
   rw[e1]
   by_cases h2:a<(l.length:Int)
   ·have e2:min a (l.length:Int)=a:=by omega
    rw[e2]
    by_cases h3:(0:Int)<a
    all_goals (
      go_enter Tryz.func24,Tryz.ntmps24
      go_wp2
      go_ret
      refine⟨?_,rfl⟩
      try simp only[Ending.returned.injEq,Value.int.injEq,true_and]
      try omega
      try rfl)
   ·have e2:min a (l.length:Int)=(l.length:Int):=by omega
    rw[e2]
    by_cases h3:(0:Int)<a
    all_goals (
      go_enter Tryz.func24,Tryz.ntmps24
      go_wp2
      go_ret
      refine⟨?_,rfl⟩
      try simp only[Ending.returned.injEq,Value.int.injEq,true_and]
      try omega
      try rfl)
theorem fwdL_cons (x:Int) (r:List Int) (n a:Int):fwdL (x::r) n a=if a<x then x else fwdL r n a:=by
  unfold fwdL
  rw[List.find?_cons]
  by_cases h:a<x
  ·rw[if_pos h,decide_eq_true h]
  ·rw[if_neg h,decide_eq_false h]
def bckG (f:Int) (S:List Int) (a:Int):Int:=match (S.takeWhile fun x=>decide (x<a)).getLast? with|some x=>x|none=>f
theorem bckG_cons (f x:Int) (r:List Int) (a:Int):bckG f (x::r) a=if x<a then bckG x r a else f:=by
  unfold bckG
  rw[List.takeWhile_cons]
  by_cases h:x<a
  ·rw[if_pos h,if_pos (decide_eq_true h)]
   cases hc:r.takeWhile fun x=>decide (x<a) with
   | nil=>rfl
   | cons y s=>rw[List.getLast?_cons_cons];rfl
  ·rw[if_neg h,if_neg (by simpa using h)]
   rfl
theorem drop_at {S:List Int} {i:Nat} {x:Int} (h:S[i]? = some x):S.drop i=x::S.drop (i+1):=by
  obtain⟨h1,h2⟩:=List.getElem?_eq_some_iff.1 h
  rw[List.drop_eq_getElem_cons h1,h2]
theorem cmpL_len:∀l:List Int,(cmpL l).length≤l.length
  | []=>Nat.le_refl _
  | a::l=>by
    have h:=cmpL_len l
    unfold cmpL
    cases hc:cmpL l with
    | nil=>simp
    | cons b s=>
      rw[hc] at h
      simp only
      split
      ·simp at h ⊢;omega
      ·simp at h ⊢;omega
structure StopOk (l:List UInt8) (k:Int):Prop where
  c:CmdOk l
  b:Btw (btwI l k) (l.length:Int)
  n:(btwB l k).length≤50000
  l:l.length≤900
theorem StopOk.len {l:List UInt8} {k:Int} (h:StopOk l k):(stopsL (btwI l k) (l.length:Int)).length≤60000:=by
  have h1:=cmpL_len (0::btwI l k++[(l.length:Int)])
  have h2:=h.n
  have h3:(btwI l k).length=(btwB l k).length:=by unfold btwI;simp
  unfold stopsL
  simp only[List.length_append,List.length_cons,List.length_nil] at h1
  omega
set_option maxHeartbeats 4000000 in
theorem Forward_m (l:List UInt8) (a k:Int) (hk:StopOk l k) (w:World) :
    Calls Tryz.prog 17 #[.string ⟨l.toArray⟩,.int .i64 a,.int .i64 k] w fun e w'=>e=.returned (.int .i64 (fwdL (stopsL (btwI l k) (l.length:Int)) (l.length:Int) (inM (l.length:Int) a)))∧Below w.heap.size w w':=by
  have hc:=fun W=>Stops_m l k hk.c hk.b hk.n hk.l W
  have hS:=hk.len
  generalize stopsL (btwI l k) (l.length:Int)=S at *
  have hi:=fun W=>within_m l a W
  generalize inM (l.length:Int) a=m at *
  have H:=Lib.hid (And.intro hi hc)
  clear hi hc hk
  go_enter Tryz.func17,Tryz.ntmps17
  go_wp2_with fail
  refine wp_scope_straight ?_
  go_wp2_with (
    (go_at_call 24
     refine(H.out.1 _).mono ?_
     rintro e w2 ⟨rfl,rfl⟩))
  refine wp_label ?_
  go_wp2_with (
    (go_at_call 16
     refine(H.out.2 _).mono ?_
     rintro e w3 ⟨v3,rfl,h1,h2⟩
     obtain⟨A3,n3,c3,rfl⟩:=own_form' h1
     obtain rfl:=own_len h1
     have H3:=Lib.hid (And.intro h1 h2)
     clear h1 h2))
  go_loopw [7,19] (fun t i wr=>∃q:Nat,q≤S.length∧i=.int .i64 q∧t=.int .i64 (l.length:Int)∧fwdL (S.drop q) (l.length:Int) m=fwdL S (l.length:Int) m∧wr=w3) (fun t i _=>S.length-(intOf i).toNat)
  case atStart=>exact⟨0,Nat.zero_le _,rfl,rfl,rfl,rfl⟩
  case round=>
    obtain⟨q,hq,rfl,rfl,hf,hw⟩:=hrel
    obtain rfl:=hw.symm
    by_cases hlt:q<S.length
    ·obtain⟨x,hx⟩:∃x,S[q]? = some x:=⟨_,List.getElem?_eq_getElem hlt⟩
     obtain⟨g,rfl⟩:=own_at H3.out.1 (by omega)
     have c0:=own_cell H3.out.1 _ _ (ivs_at hx)
     rw[drop_at hx,fwdL_cons] at hf
     have u1:(q:Int)<(S.length:Int):=by omega
     have u2:(0:Int)≤(q:Int):=by omega
     clear hx
     by_cases hm:m<x
     ·rw[if_pos hm] at hf
      have t1:decide (m<x)=true:=by simpa using hm
      have HF:=Lib.hid hf
      clear hf hm
      go_wp2_with fail
      go_ret
      exact⟨by rw[←HF.out];rfl,H3.out.2⟩
     ·rw[if_neg hm] at hf
      have t1:decide (m<x)=false:=by simpa using hm
      have HF:=Lib.hid hf
      clear hf hm
      go_wp2_with fail
      exact⟨⟨q+1,by omega,by go_num,rfl,HF.out,trivial⟩,by simp[intOf];omega⟩
    ·obtain rfl:q=S.length:=by omega
     rw[List.drop_length] at hf
     have HF:=Lib.hid hf
     clear hf
     go_wp2_with fail
     go_ret
     exact⟨by rw[←HF.out];rfl,H3.out.2⟩
set_option maxHeartbeats 4000000 in
theorem Back_m (l:List UInt8) (a k:Int) (hk:StopOk l k) (w:World) :
    Calls Tryz.prog 18 #[.string ⟨l.toArray⟩,.int .i64 a,.int .i64 k] w fun e w'=>e=.returned (.int .i64 (bckL (stopsL (btwI l k) (l.length:Int)) (inM (l.length:Int) a)))∧Below w.heap.size w w':=by
  have hc:=fun W=>Stops_m l k hk.c hk.b hk.n hk.l W
  have hS:=hk.len
  generalize stopsL (btwI l k) (l.length:Int)=S at *
  have hi:=fun W=>within_m l a W
  generalize inM (l.length:Int) a=m at *
  have H:=Lib.hid (And.intro hi hc)
  clear hi hc hk
  go_enter Tryz.func18,Tryz.ntmps18
  go_wp2_with fail
  refine wp_scope_straight ?_
  go_wp2_with (
    (go_at_call 24
     refine(H.out.1 _).mono ?_
     rintro e w2 ⟨rfl,rfl⟩))
  refine wp_label ?_
  go_wp2_with (
    (go_at_call 16
     refine(H.out.2 _).mono ?_
     rintro e w3 ⟨v3,rfl,h1,h2⟩
     obtain⟨A3,n3,c3,rfl⟩:=own_form' h1
     obtain rfl:=own_len h1
     have H3:=Lib.hid (And.intro h1 h2)
     clear h1 h2))
  go_loopw [7,17] (fun t i wr=>∃q:Nat,q≤S.length∧i=.int .i64 q∧(∃f:Int,t=.int .i64 f∧bckG f (S.drop q) m=bckL S m)∧wr=w3) (fun t i _=>S.length-(intOf i).toNat)
  case atStart=>exact⟨0,Nat.zero_le _,rfl,⟨0,rfl,rfl⟩,rfl⟩
  case round=>
    obtain⟨q,hq,rfl,⟨f,rfl,hf⟩,hw⟩:=hrel
    obtain rfl:=hw.symm
    by_cases hlt:q<S.length
    ·obtain⟨x,hx⟩:∃x,S[q]? = some x:=⟨_,List.getElem?_eq_getElem hlt⟩
     obtain⟨g,rfl⟩:=own_at H3.out.1 (by omega)
     have c0:=own_cell H3.out.1 _ _ (ivs_at hx)
     rw[drop_at hx,bckG_cons] at hf
     have u1:(q:Int)<(S.length:Int):=by omega
     have u2:(0:Int)≤(q:Int):=by omega
     clear hx
     by_cases hm:x<m
     ·rw[if_pos hm] at hf
      have t1:decide (m≤x)=false:=by simpa using hm
      have HF:=Lib.hid hf
      clear hf hm
      go_wp2_with fail
      exact⟨⟨q+1,by omega,by go_num,⟨_,rfl,HF.out⟩,trivial⟩,by simp[intOf];omega⟩
     ·rw[if_neg hm] at hf
      have t1:decide (m≤x)=true:=by simpa using hm
      have HF:=Lib.hid hf
      clear hf hm
      go_wp2_with fail
      go_ret
      exact⟨by rw[←HF.out];rfl,H3.out.2⟩
    ·obtain rfl:q=S.length:=by omega
     rw[List.drop_length] at hf
     have HF:=Lib.hid hf
     clear hf
     go_wp2_with fail
     go_ret
     exact⟨by rw[←HF.out];rfl,H3.out.2⟩
end Go.Proofs.YtgdifhhioahakaaGreatDoor
