/- RelexHistory: the walk. Two ways to one text come to the same. -/
import Derived.Test.YtclllfmbldeneaaGreatDoorDf10
namespace Go.Proofs.YtclllfmbldeneaaGreatDoor
open Go.RowKit
set_option linter.unusedVariables false
set_option linter.unusedSimpArgs false
set_option maxRecDepth 100000
theorem DocP.other {W W':World} {g g':Nat} {l l':List UInt8} (h:DocP W g l) (h':DocP W g' l') (hg:W.grownBy W' (some g')) (hne:g≠g'):DocP W' g l:=by
  obtain⟨xs,lv,pv,h1,h2,h3⟩:=h
  obtain⟨_,_,_,_,k2,_⟩:=h'
  have hr:∀{e:TypeId},e≠66→∀k,some g'=some k→∃t cs fr,W.heap[k]? = some (.cells cs t fr)∧e≠t:=fun he k hk=>by injection hk with hk;subst hk;exact⟨_,_,_,k2.bk,he⟩
  exact⟨xs,lv,pv,h1,⟨h2.bk.grown hg (fun e=>hne (by injection e)),fun q hq=>(h2.ps q hq).keep hg (hr (by decide)),h2.pv.keep hg (hr (by decide))⟩,h3.keep hg (hr (by decide))⟩
set_option maxHeartbeats 4000000 in
theorem relexHistory_w (l0:List UInt8) (xs:List Ez) (A:Option Addr) (n c:Nat) (w:World) (hm:l0.length≤9223372036854775807) (hrd:Rd w w.heap.size 3 (.slice A n c) n (ezcs xs)) (hn:n=xs.length) (hm1:n≤9223372036854775807) :
    Calls Tryz.prog 8 #[.string ⟨l0.toArray⟩,.slice A n c] w fun e w'=>e=.returned (.bool true)∧Below w.heap.size w w':=by
  subst hn
  by_cases h100:(100:Int)<(l0.length:Int)
  ·go_enter Tryz.func8,Tryz.ntmps8
   go_wp2_with (
     (go_at_call 9
      refine(awake10_c _).mono ?_
      rintro e w1 ⟨rfl,hb⟩
      have H:=Lib.hid hb
      clear hb))
   go_ret
   exact⟨rfl,H.out⟩
  ·obtain⟨sb,hsb⟩:∃sb,sb=shortL xs 8:=⟨_,rfl⟩
   have c1:∀W,Below w.heap.size w W→Calls Tryz.prog 17 #[.slice A xs.length c,.int .i64 8] W fun e w'=>e=.returned (.bool sb)∧Below W.heap.size W w':=fun W hW=>by rw[hsb];exact short10_m xs A c 8 W hm1 ((hrd.keep hW (Nat.le_refl _)).mono hW.size)
   have HC:=Lib.hid (And.intro c1 (And.intro hsb hrd))
   clear c1 hsb hrd
   cases sb
   ·go_enter Tryz.func8,Tryz.ntmps8
    go_wp2_with (first
      | (go_at_call 9
         refine(awake10_c _).mono ?_
         rintro e w1 ⟨rfl,hb⟩
         have H:=Lib.hid hb
         clear hb)
      | (go_at_call 17
         with_reducible refine(HC.out.1 _ H.out).mono ?_
         rintro e w2 ⟨rfl,hb⟩
         have H2:=Lib.hid (H.out.trans (hb.mono H.out.size))
         clear hb))
    go_ret
    exact⟨rfl,H2.out⟩
   ·obtain⟨hx8,hxs⟩:=shortL_out HC.out.2.1.symm
    have HX:=Lib.hid hxs
    clear hxs
    go_enter Tryz.func8,Tryz.ntmps8
    go_wp2_with (first
      | (go_at_call 9
         refine(awake10_c _).mono ?_
         rintro e w1 ⟨rfl,hb⟩
         have H:=Lib.hid hb
         clear hb)
      | (go_at_call 17
         with_reducible refine(HC.out.1 _ H.out).mono ?_
         rintro e w2 ⟨rfl,hb⟩
         have H2:=Lib.hid (H.out.trans (hb.mono H.out.size))
         clear hb)
      | (go_at_call 11
         with_reducible refine(new10_m l0 w2 (by omega)).mono ?_
         rintro e w3 ⟨g,rfl,hg,hD,hb⟩
         have H3:=Lib.hid (And.intro hD (And.intro (H2.out.trans (hb.mono H2.out.size)) (Nat.le_trans H2.out.size hg)))
         clear hg hD hb)
      | (go_at_call 11
         with_reducible refine(new10_m l0 w3 (by omega)).mono ?_
         rintro e w4 ⟨g2,rfl,hg,hD,hb⟩
         have hgl:g<w3.heap.size:=by obtain⟨_,_,_,_,k2,_⟩:=H3.out.1;exact k2.bk.lt
         have hne:g≠g2:=by omega
         have H4:=Lib.hid (And.intro (H3.out.1.next hb) (And.intro hD (And.intro (H3.out.2.1.trans (hb.mono H3.out.2.1.size)) (And.intro H3.out.2.2 (Nat.le_trans H3.out.2.1.size hg)))))
         clear hg hD hb hgl)
      | fail)
    go_loopw [9] (fun i wr=>∃(k:Nat) (l:List UInt8),k≤xs.length∧i=.int .i64 k∧l.length≤100+60*k∧DocP wr g l∧DocP wr g2 l0∧Below w.heap.size w wr) (fun i _=>xs.length-(intOf i).toNat)
    case atStart=>exact⟨0,l0,Nat.zero_le _,rfl,by omega,H4.out.1,H4.out.2.1,H4.out.2.2.1⟩
    case round=>
      obtain⟨k,l,hk,rfl,hl,hD,hD2,hb⟩:=hrel
      by_cases hlt:k<xs.length
      ·have u1:(k:Int)<(xs.length:Int):=by omega
       have u2:(0:Int)≤(k:Int):=by omega
       obtain⟨x,hx⟩:∃x,xs[k]? = some x:=⟨_,List.getElem?_eq_getElem hlt⟩
       have hxz:=HX.out x (List.mem_of_getElem? hx)
       obtain⟨ga,oa,hA,_,y0,y1,y2⟩:=ez_at (HC.out.2.2.keep hb (Nat.le_refl _)) hx rfl
       have c1:=apply_m g l x wr hD (by omega) hxz
       have HB:=Lib.hid (And.intro hD (And.intro hD2 (And.intro hb c1)))
       have tb8:∀n,n≤l.length+60→n≤100+60*(k+1):=fun n h=>by omega
       clear hD hD2 hb c1 hxz hx
       subst hA
       go_wp2_with (
         (go_at_call 13
          with_reducible refine HB.out.2.2.2.mono ?_
          rintro e w5 ⟨h,t,rfl,_,_,hD,hln,hg⟩
          have hl8:=tb8 _ hln
          have H5:=Lib.hid (And.intro hD (And.intro (HB.out.2.1.other HB.out.1 hg (fun e=>hne e.symm)) (Below.grown HB.out.2.2.1 hg HB.out.2.2.1.size (fun k hk=>by injection hk with hk;have:=H4.out.2.2.2.1;omega))))
          clear hD hg))
       exact⟨⟨k+1,_,by omega,by go_num,hl8,H5.out.1,H5.out.2.1,H5.out.2.2⟩,by simp[intOf]<;>omega⟩
      ·obtain rfl:k=xs.length:=by omega
       have hl9:l.length≤580:=by omega
       obtain⟨N,ts,Y,hdc⟩:=docC l (by omega)
       have HD:=Lib.hid hdc
       have HB:=Lib.hid (And.intro hD (And.intro hD2 hb))
       clear hb hD hD2 hdc
       go_upto_region 14 with (first
         | (go_at_call 21
            with_reducible refine(HD.out.tx g _ HB.out.1).mono ?_
            rintro e w6 ⟨rfl,rfl⟩)
         | (go_at_call 27
            with_reducible refine(diff_m l0 l _ (by omega) (by omega)).mono ?_
            rintro e w7 ⟨p,x,y,c2,hp1,hp2,rfl,hb7⟩
            have H7:=Lib.hid (And.intro (HB.out.1.next hb7) (And.intro (HB.out.2.1.next hb7) (And.intro (HB.out.2.2.trans (hb7.mono HB.out.2.2.size)) (And.intro hp1 hp2))))
            clear hb7 hp1 hp2)
         | (go_at_call 13
            have c5:=apply_ok g2 ⟨p,x,y,c2⟩ w7 (by rw[show (⟨p,x,y,c2⟩:Ed).old=l0 from H7.out.2.2.2.1.symm];exact H7.out.2.1) (by rw[show (⟨p,x,y,c2⟩:Ed).old=l0 from H7.out.2.2.2.1.symm];omega) (by rw[show (⟨p,x,y,c2⟩:Ed).new=l from H7.out.2.2.2.2.symm];omega) (okE_of _).1 (okE_of _).2
            rw[show (⟨p,x,y,c2⟩:Ed).new=l from H7.out.2.2.2.2.symm] at c5
            refine c5.mono ?_
            rintro e w8 ⟨T,_,rfl,hD,hg⟩
            have H8:=Lib.hid (And.intro (H7.out.1.other H7.out.2.1 hg hne) (And.intro hD (Below.grown H7.out.2.2.1 hg H7.out.2.2.1.size (fun k hk=>by injection hk with hk;have:=H4.out.2.2.2.2;omega))))
            clear c5 hD hg)
         | fail)
       go_wp2_with (first
         | (go_at_call 21
            with_reducible refine(HD.out.tx g _ H8.out.1).mono ?_
            rintro e w9 ⟨rfl,rfl⟩)
         | (go_at_call 21
            with_reducible refine(HD.out.tx g2 _ H8.out.2.1).mono ?_
            rintro e w9 ⟨rfl,rfl⟩)
         | (go_at_call 12
            with_reducible refine(HD.out.tk g _ H8.out.1).mono ?_
            rintro e w10 ⟨v,rfl,ho,hb⟩
            obtain⟨A6,n6,c6,rfl⟩:=own_form' ho
            obtain rfl:=own_len ho
            have H10:=Lib.hid (And.intro (H8.out.1.next hb) (And.intro (H8.out.2.1.next hb) (And.intro (H8.out.2.2.trans (hb.mono H8.out.2.2.size)) ho)))
            clear ho hb)
         | (go_at_call 12
            with_reducible refine(HD.out.tk g2 _ H10.out.2.1).mono ?_
            rintro e w11 ⟨v,rfl,ho,hb⟩
            obtain⟨A7,n7,c7,rfl⟩:=own_form' ho
            obtain rfl:=own_len ho
            have H11:=Lib.hid (And.intro (H10.out.1.next hb) (And.intro (H10.out.2.1.next hb) (And.intro (H10.out.2.2.1.trans (hb.mono H10.out.2.2.1.size)) (And.intro (Rd.of_own (own_below H10.out.2.2.2 hb)) (Rd.of_own ho)))))
            clear ho hb)
         | (go_at_call 16
            refine(HD.out.st _ _ _ _ _ H11.out.2.2.2.1 H11.out.2.2.2.2).mono ?_
            rintro e w12 ⟨rfl,hb⟩
            have H12:=Lib.hid (And.intro (H11.out.1.next hb) (And.intro (H11.out.2.1.next hb) (H11.out.2.2.1.trans (hb.mono H11.out.2.2.1.size))))
            clear hb)
         | (go_at_call 19
            with_reducible refine(HD.out.lx g _ H12.out.1).mono ?_
            rintro e w13 ⟨v3,rfl,hr,hb⟩
            obtain⟨A8,c8,rfl⟩:=hr.form
            have H13:=Lib.hid (And.intro (H12.out.2.1.next hb) (And.intro (H12.out.2.2.trans (hb.mono H12.out.2.2.size)) hr))
            clear hr hb)
         | (go_at_call 19
            with_reducible refine(HD.out.lx g2 _ H13.out.1).mono ?_
            rintro e w14 ⟨v3,rfl,hr,hb⟩
            obtain⟨A9,c9,rfl⟩:=hr.form
            have H14:=Lib.hid (And.intro (H13.out.2.1.trans (hb.mono H13.out.2.1.size)) (And.intro (H13.out.2.2.next hb) hr))
            clear hr hb)
         | (go_at_call 22
            refine(HD.out.sx _ _ _ _ _ H14.out.2.1 H14.out.2.2).mono ?_
            rintro e w15 ⟨rfl,hb⟩
            have H15:=Lib.hid (H14.out.1.trans (hb.mono H14.out.1.size))
            clear hb)
         | fail)
       go_ret
       exact⟨rfl,H15.out⟩
end Go.Proofs.YtclllfmbldeneaaGreatDoor
