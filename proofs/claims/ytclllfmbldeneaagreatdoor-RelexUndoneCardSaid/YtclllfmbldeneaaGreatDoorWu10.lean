/- RelexUndone: the walk. An edit, and then its inverse, leaves the tokens as they were. -/
import Derived.Test.YtclllfmbldeneaaGreatDoorCn10
namespace Go.Proofs.YtclllfmbldeneaaGreatDoor
open Go.RowKit
set_option linter.unusedVariables false
set_option linter.unusedSimpArgs false
set_option maxRecDepth 100000
set_option maxHeartbeats 4000000 in
theorem relexUndone_w (l0:List UInt8) (x:Ez) (w:World) (hm:l0.length≤9223372036854775807) :
    Calls Tryz.prog 5 #[.string ⟨l0.toArray⟩,.agg #[.int .i64 x.a,.string ⟨x.d.toArray⟩,.string ⟨x.i.toArray⟩]] w fun e w'=>e=.returned (.bool true)∧Below w.heap.size w w':=by
  have key:(100:Int)<(l0.length:Int)∨(¬(100:Int)<(l0.length:Int)∧(60:Int)<(x.d.length:Int))∨(¬(100:Int)<(l0.length:Int)∧¬(60:Int)<(x.d.length:Int)∧(60:Int)<(x.i.length:Int))∨(¬(100:Int)<(l0.length:Int)∧¬(60:Int)<(x.d.length:Int)∧¬(60:Int)<(x.i.length:Int)):=by omega
  rcases key with k1|⟨k1,k2⟩|⟨k1,k2,k3⟩|⟨k1,k2,k3⟩
  case' inr.inr.inr=>
    have hs:shortZ x=true:=by unfold shortZ;rw[decide_eq_true (p:=x.d.length≤60) (by omega),decide_eq_true (p:=x.i.length≤60) (by omega)];rfl
    have hl:l0.length≤100:=by omega
    obtain⟨ok,hok⟩:∃ok,ok=okE l0 x.d x.a:=⟨_,rfl⟩
    have c1:∀g W,DocP W g l0→Calls Tryz.prog 13 #[.pointer (some ⟨g,0,none⟩),.agg #[.int .i64 x.a,.string ⟨x.d.toArray⟩,.string ⟨x.i.toArray⟩]] W fun e w'=>∃h t:Int,e=.returned (.tuple #[.agg #[.int .i64 h,.int .i64 t],.int .i64 (if ok=true then 0 else 1)])∧DocP w' g (edT l0 x)∧W.grownBy w' (some g):=fun g W hW=>by
      refine(apply_m g l0 x W hW (by omega) hs).mono ?_
      rintro e w' ⟨h,t,rfl,h1,_,h2,h3,h4⟩
      rw[hok]
      exact⟨h,t,rfl,h2,h4⟩
    have c2:ok=true→∀g W,DocP W g (edT l0 x)→Calls Tryz.prog 13 #[.pointer (some ⟨g,0,none⟩),.agg #[.int .i64 x.a,.string ⟨x.i.toArray⟩,.string ⟨x.d.toArray⟩]] W fun e w'=>∃h t:Int,e=.returned (.tuple #[.agg #[.int .i64 h,.int .i64 t],.int .i64 0])∧DocP w' g l0∧W.grownBy w' (some g):=fun ho g W hW=>by
      rw[hok] at ho
      obtain⟨i1,i2⟩:=okE_inv (i:=x.i) ho
      have e1:edT l0 x=newL l0 x.d x.i x.a:=by unfold edT;rw[if_pos ho]
      have hs2:shortZ ⟨x.a,x.i,x.d,x.ha⟩=true:=by unfold shortZ at hs ⊢;rw[Bool.and_comm];exact hs
      have hln:(edT l0 x).length≤160:=by
        obtain⟨ed,d1,d2,d3,d4,d5⟩:=okE_ed ho x.i
        rw[e1,←d2]
        have h6:ed.old.length≤100:=by rw[d1];exact hl
        have h7:ed.i.length≤60:=by rw[d5];omega
        unfold Ed.old at h6
        unfold Ed.new
        simp only[List.length_append] at h6 ⊢
        omega
      refine(apply_m g (edT l0 x) ⟨x.a,x.i,x.d,x.ha⟩ W hW (by omega) hs2).mono ?_
      rintro e w' ⟨h,t,rfl,h1,_,h2,h3,h4⟩
      replace h2:DocP w' g (edT (edT l0 x) ⟨x.a,x.i,x.d,x.ha⟩):=h2
      have e2:edT (edT l0 x) ⟨x.a,x.i,x.d,x.ha⟩=l0:=by
        rw[e1]
        unfold edT
        rw[if_pos i1]
        exact i2
      rw[e2] at h2
      have e3:okE (edT l0 x) x.i x.a=true:=by rw[e1];exact i1
      exact⟨h,t,by show _=_;rw[if_pos e3],h2,h4⟩
    have c3:ok=false→edT l0 x=l0:=fun ho=>by unfold edT;rw[if_neg (by rw[←hok,ho];decide)]
    have c4:∀W,Calls Tryz.prog 20 #[.agg #[.int .i64 x.a,.string ⟨x.d.toArray⟩,.string ⟨x.i.toArray⟩]] W fun e w'=>e=.returned (.agg #[.int .i64 x.a,.string ⟨x.i.toArray⟩,.string ⟨x.d.toArray⟩])∧Below W.heap.size W w':=fun W=>inv_m x.d x.i x.a W
    obtain⟨N,ts,Y,hdc⟩:=docC l0 (by omega)
    have HC:=Lib.hid (And.intro c1 (And.intro c2 (And.intro c3 c4)))
    have HD:=Lib.hid hdc
    clear c1 c2 c3 c4 hok hdc
  all_goals go_enter Tryz.func5,Tryz.ntmps5
  case' inr.inr.inr=>
    go_upto_region 10 with (first
      | (go_at_call 9
         refine(awake10_c _).mono ?_
         rintro e w1 ⟨rfl,hb⟩
         have kb:=(Bk.new w 23 #[.int .i64 x.a,.string ⟨x.d.toArray⟩,.string ⟨x.i.toArray⟩]).below hb (by simp)
         obtain⟨q0,q1,q2,_⟩:=kb.three
         have H1:=Lib.hid (And.intro kb (((Below.refl _ w).alloc (Nat.le_refl _) _).trans (hb.mono (by simp))))
         clear kb hb)
      | (go_at_call 11
         refine(new10_m l0 _ (by omega)).mono ?_
         rintro e w2 ⟨g,rfl,hg,hD,hb⟩
         have kb:=H1.out.1.below hb H1.out.1.lt
         have hw2:=H1.out.2.trans (hb.mono H1.out.2.size)
         have hgw:w.heap.size≤g:=Nat.le_trans H1.out.2.size hg
         have H2:=Lib.hid (And.intro hD (And.intro kb hw2))
         clear hg hD hb kb hw2)
      | (go_at_call 12
         refine(HD.out.tk g _ H2.out.1).mono ?_
         rintro e w3 ⟨v,rfl,ho,hb⟩
         obtain⟨A,n,c,rfl⟩:=own_form' ho
         obtain rfl:=own_len ho
         have H3:=Lib.hid (And.intro (H2.out.1.next hb) (And.intro (H2.out.2.1.below hb H2.out.2.1.lt) (And.intro (H2.out.2.2.trans (hb.mono H2.out.2.2.size)) (own_base (B':=w.heap.size) ho H2.out.2.2.size))))
         clear ho hb)
      | (go_at_call 19
         refine(HD.out.lx g _ H3.out.1).mono ?_
         rintro e w4 ⟨v3,rfl,hr,hb⟩
         obtain⟨A3,c3,rfl⟩:=hr.form
         have H4:=Lib.hid (And.intro (H3.out.1.next hb) (And.intro (H3.out.2.1.below hb H3.out.2.1.lt) (And.intro (H3.out.2.2.1.trans (hb.mono H3.out.2.2.1.size)) (And.intro (own_below H3.out.2.2.2 hb) hr))))
         clear hr hb)
      | fail)
    refine gen1 fun W5 hb5 k5 hs5=>?_
    have hU:UnI w g w4.heap.size l0 x _ ts _ _ Y W5:=⟨H4.out.1.next hb5,H4.out.2.1.below hb5 H4.out.2.1.lt,k5,own_below H4.out.2.2.2.1 hb5,H4.out.2.2.2.2.next hb5,H4.out.2.2.1.trans (hb5.mono H4.out.2.2.1.size)⟩
    obtain⟨q0,q1,q2,_⟩:=hU.be.three
    have HU:=Lib.hid hU
    clear hU hb5 k5 hs5 H4 H3 H2 H1
    cases ok
    case' false=>
      have hc3:=HC.out.2.2.1 (by first|trivial|rfl)
      go_upto_region 15 with (
        (go_at_call 13
         with_reducible refine(HC.out.1 g _ HU.out.doc).mono ?_
         rintro e w6 ⟨h,t,rfl,hD,hg⟩
         rw[hc3] at hD
         have H6:=Lib.hid (HU.out.apply hgw hg hD)
         clear hD hg))
      refine gen1 fun W9 hb9 _ _=>?_
      have HU9:=Lib.hid (H6.out.below hb9)
      clear hb9
    case' true=>
      go_upto_region 12 with (
        (go_at_call 13
         with_reducible refine(HC.out.1 g _ HU.out.doc).mono ?_
         rintro e w6 ⟨h,t,rfl,hD,hg⟩
         have H6:=Lib.hid (HU.out.apply hgw hg hD)
         clear hD hg))
      refine gen1 fun W7 hb7 _ _=>?_
      have HU7:=Lib.hid (H6.out.below hb7)
      obtain⟨q0,q1,q2,_⟩:=HU7.out.be.three
      clear hb7
      go_upto_region 15 with (first
        | (go_at_call 20
           with_reducible refine(HC.out.2.2.2 _).mono ?_
           rintro e w8 ⟨rfl,hb8⟩
           have H8:=Lib.hid (HU7.out.below hb8)
           clear hb8)
        | (go_at_call 13
           with_reducible refine(HC.out.2.1 (by first|trivial|rfl) g _ H8.out.doc).mono ?_
           rintro e w10 ⟨h,t,rfl,hD,hg⟩
           have H10:=Lib.hid (H8.out.apply hgw hg hD)
           clear hD hg)
        | fail)
      refine gen1 fun W9 hb9 _ _=>?_
      have HU9:=Lib.hid (H10.out.below hb9)
      clear hb9
    all_goals (
      obtain⟨z0,z1,z2,_⟩:=HU9.out.bx.three
      go_region_held3 (fun w'=>w'.cell? ⟨w4.heap.size,0,none⟩=some (.int .i64 Y.aw)∧w'.cell? ⟨w4.heap.size,1,none⟩=some (.slice A3 Y.pd.length c3)∧w'.cell? ⟨w4.heap.size,2,none⟩=some (.bool Y.bd))
       (first|with_reducible exact⟨z0,z1,z2⟩|exact⟨z0,z1,z2⟩)
       (first
        | (go_at_call 21
           refine(HD.out.tx g _ (HU9.out.doc.next (Below.refl _ W9).drew)).mono ?_
           rintro e w11 ⟨rfl,rfl⟩)
        | (go_at_call 12
           refine(HD.out.tk g _ (HU9.out.doc.next (Below.refl _ W9).drew)).mono ?_
           rintro e w11 ⟨v4,rfl,ho4,hb4⟩
           obtain⟨A4,n4,c4,rfl⟩:=own_form' ho4
           obtain rfl:=own_len ho4
           have z0:=bkeep hb4 z0
           have z1:=bkeep hb4 z1
           have z2:=bkeep hb4 z2
           have H11:=Lib.hid (And.intro ho4 ((Below.refl _ W9).drew.trans hb4))
           clear ho4 hb4)
        | (go_at_call 16
           refine(HD.out.st _ _ _ _ _ (Rd.of_own H11.out.1) (Rd.of_own (own_below HU9.out.row H11.out.2))).mono ?_
           rintro e w12 ⟨rfl,hb5⟩
           have z0:=bkeep hb5 z0
           have z1:=bkeep hb5 z1
           have z2:=bkeep hb5 z2
           have H12:=Lib.hid (H11.out.2.trans (hb5.mono H11.out.2.size))
           clear hb5)
        | (go_at_call 19
           refine(HD.out.lx g _ (HU9.out.doc.next H12.out)).mono ?_
           rintro e w13 ⟨v6,rfl,hr6,hb6⟩
           obtain⟨A6,c6,rfl⟩:=hr6.form
           have z0:=bkeep hb6 z0
           have z1:=bkeep hb6 z1
           have z2:=bkeep hb6 z2
           have H13:=Lib.hid (And.intro hr6 (H12.out.trans (hb6.mono H12.out.size)))
           clear hr6 hb6)
        | (go_at_call 22
           refine(HD.out.sx _ _ _ _ _ H13.out.1 (HU9.out.rt.next H13.out.2)).mono ?_
           rintro e w14 ⟨rfl,hb7⟩
           have z0:=bkeep hb7 z0
           have z1:=bkeep hb7 z1
           have z2:=bkeep hb7 z2
           have H14:=Lib.hid (H13.out.2.trans (hb7.mono H13.out.2.size))
           clear hb7)
        | fail)
      go_wp2_with fail
      go_ret
      exact⟨rfl,HU9.out.hb.trans (H14.out.mono HU9.out.hb.size)⟩)
  all_goals (
    go_wp2_with (
      (go_at_call 9
       refine(awake10_c _).mono ?_
       rintro e w1 ⟨rfl,hb⟩
       have kb:=(Bk.new w 23 #[.int .i64 x.a,.string ⟨x.d.toArray⟩,.string ⟨x.i.toArray⟩]).below hb (by simp)
       obtain⟨q0,q1,q2,_⟩:=kb.three
       have H1:=Lib.hid (((Below.refl _ w).alloc (Nat.le_refl _) _).trans (hb.mono (by simp)))
       clear kb hb))
    go_ret
    exact⟨rfl,H1.out⟩)
end Go.Proofs.YtclllfmbldeneaaGreatDoor
