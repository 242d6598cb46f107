/- RelexFollows: the walk. Behind whatever edits the text, its tokens, and the lexing behind them, are those that the document says of the text alone. -/
import Derived.Test.YtclllfmbldeneaaGreatDoorCm10
namespace Go.Proofs.YtclllfmbldeneaaGreatDoor
open Go.RowKit
set_option linter.unusedVariables false
set_option linter.unusedSimpArgs false
set_option maxRecDepth 100000
set_option maxHeartbeats 4000000 in
theorem relexFollows_w (l0:List UInt8) (xs:List Ez) (A:Option Addr) (n c:Nat) (w:World) (hm:l0.length≤9223372036854775807) (hrd:Rd w w.heap.size 3 (.slice A n c) n (ezcs xs)) (hn:n=xs.length) (hm1:n≤9223372036854775807) :
    Calls Tryz.prog 4 #[.string ⟨l0.toArray⟩,.slice A n c] w fun e w'=>e=.returned (.bool true)∧Below w.heap.size w w':=by
  subst hn
  by_cases h100:(100:Int)<(l0.length:Int)
  ·go_enter Tryz.func4,Tryz.ntmps4
   go_wp2_with (
     (go_at_call 9
      refine(awake10_c _).mono ?_
      rintro e w1 ⟨rfl,hb⟩
      have H:=Lib.hid hb
      clear hb))
   go_ret
   exact⟨rfl,H.out⟩
  ·obtain⟨sb,hsb⟩:∃sb,sb=shortL xs 8:=⟨_,rfl⟩
   have c1:∀W,Below w.heap.size w W→Calls Tryz.prog 17 #[.slice A xs.length c,.int .i64 8] W fun e w'=>e=.returned (.bool sb)∧Below W.heap.size W w':=fun W hW=>by rw[hsb];exact short10_m xs A c 8 W hm1 ((hrd.keep hW (Nat.le_refl _)).mono hW.size)
   have HC:=Lib.hid (And.intro c1 (And.intro hsb hrd))
   clear c1 hsb hrd
   cases sb
   ·go_enter Tryz.func4,Tryz.ntmps4
    go_wp2_with (first
      | (go_at_call 9
         refine(awake10_c _).mono ?_
         rintro e w1 ⟨rfl,hb⟩
         have H:=Lib.hid hb
         clear hb)
      | (go_at_call 17
         with_reducible refine(HC.out.1 _ H.out).mono ?_
         rintro e w2 ⟨rfl,hb⟩
         have H2:=Lib.hid (H.out.trans (hb.mono H.out.size))
         clear hb))
    go_ret
    exact⟨rfl,H2.out⟩
   ·obtain⟨hx8,hxs⟩:=shortL_out HC.out.2.1.symm
    have HX:=Lib.hid hxs
    clear hxs
    go_enter Tryz.func4,Tryz.ntmps4
    go_wp2_with (first
      | (go_at_call 9
         refine(awake10_c _).mono ?_
         rintro e w1 ⟨rfl,hb⟩
         have H:=Lib.hid hb
         clear hb)
      | (go_at_call 17
         with_reducible refine(HC.out.1 _ H.out).mono ?_
         rintro e w2 ⟨rfl,hb⟩
         have H2:=Lib.hid (H.out.trans (hb.mono H.out.size))
         clear hb)
      | (go_at_call 11
         refine(new10_m l0 _ (by omega)).mono ?_
         rintro e w3 ⟨g,rfl,hg,hD,hb⟩
         have H3:=Lib.hid (And.intro hD (And.intro (H2.out.trans (hb.mono H2.out.size)) (Nat.le_trans H2.out.size hg)))
         clear hg hD hb)
      | (go_at_call 18
         refine(right10_m g l0 _ H3.out.1 (by omega)).mono ?_
         rintro e w4 ⟨rfl,hb⟩
         have H4:=Lib.hid (And.intro (H3.out.1.next hb) (And.intro (H3.out.2.1.trans (hb.mono H3.out.2.1.size)) H3.out.2.2))
         clear hb))
    go_loopw [0,7] (fun s i wr=>∃(k:Nat) (l:List UInt8),k≤xs.length∧s=.string ⟨l.toArray⟩∧i=.int .i64 k∧l.length≤100+60*k∧DocP wr g l∧Below w.heap.size w wr) (fun s i _=>xs.length-(intOf i).toNat)
    case atStart=>exact⟨0,l0,Nat.zero_le _,rfl,rfl,by omega,H4.out.1,H4.out.2.1⟩
    case round=>
      obtain⟨k,l,hk,rfl,rfl,hl,hD,hb⟩:=hrel
      by_cases hlt:k<xs.length
      ·have u1:(k:Int)<(xs.length:Int):=by omega
       have u2:(0:Int)≤(k:Int):=by omega
       obtain⟨x,hx⟩:∃x,xs[k]? = some x:=⟨_,List.getElem?_eq_getElem hlt⟩
       have hxz:=HX.out x (List.mem_of_getElem? hx)
       obtain⟨ok,hok⟩:∃ok,ok=okE l x.d x.a:=⟨_,rfl⟩
       obtain⟨l',hl'⟩:∃l',l'=edT l x:=⟨_,rfl⟩
       have c1:∀W,DocP W g l→Calls Tryz.prog 13 #[.pointer (some ⟨g,0,none⟩),.agg #[.int .i64 x.a,.string ⟨x.d.toArray⟩,.string ⟨x.i.toArray⟩]] W fun e w'=>∃h t:Int,e=.returned (.tuple #[.agg #[.int .i64 h,.int .i64 t],.int .i64 (if ok=true then 0 else 1)])∧(ok=false→h=0∧t=0)∧DocP w' g l'∧l'.length≤l.length+60∧W.grownBy w' (some g):=fun W hW=>by
         refine(apply_m g l x W hW (by omega) hxz).mono ?_
         rintro e w' ⟨h,t,rfl,h1,_,h2,h3,h4⟩
         rw[hok,hl']
         exact⟨h,t,rfl,h1,h2,h3,h4⟩
       have c2:∀W,Calls Tryz.prog 10 #[.string ⟨l.toArray⟩,.agg #[.int .i64 x.a,.string ⟨x.d.toArray⟩,.string ⟨x.i.toArray⟩]] W fun e w'=>e=.returned (.int .i64 (if ok=true then 0 else 1))∧Below W.heap.size W w':=fun W=>by
         rw[hok]
         have hz:=hxz
         unfold shortZ at hz
         simp only[Bool.and_eq_true,decide_eq_true_eq] at hz
         exact wrong_m l x.d x.i x.a W (by omega) (by omega) (by omega) x.ha
       have c3:ok=true→∀W,Calls Tryz.prog 14 #[.string ⟨l.toArray⟩,.agg #[.int .i64 x.a,.string ⟨x.d.toArray⟩,.string ⟨x.i.toArray⟩]] W fun e w'=>e=.returned (.string ⟨l'.toArray⟩)∧Below W.heap.size W w':=fun ho W=>by
         have hz:=hxz
         unfold shortZ at hz
         simp only[Bool.and_eq_true,decide_eq_true_eq] at hz
         rw[hok] at ho
         rw[hl']
         unfold edT
         rw[if_pos ho]
         exact rdo_m l x.d x.i x.a W (by omega) (by omega) (by omega) ho
       have hsame:ok=false→l'=l:=fun ho=>by rw[hl'];unfold edT;rw[if_neg (by rw[←hok,ho];decide)]
       obtain⟨ga,oa,hA,_,y0,y1,y2⟩:=ez_at (HC.out.2.2.keep hb (Nat.le_refl _)) hx rfl
       have HB:=Lib.hid (And.intro hD (And.intro hb (And.intro c1 (And.intro c2 (And.intro c3 (And.intro hsame hx))))))
       clear hD hb c1 c2 c3 hsame hok hl' hxz hx
       subst hA
       have tb9:∀n,n≤l.length+60→n≤900:=fun n h=>by omega
       have tb8:∀n,n≤l.length+60→n≤100+60*(k+1):=fun n h=>by omega
       cases ok
       ·obtain rfl:=HB.out.2.2.2.2.2.1 rfl
        go_wp2_with (first
          | (go_at_call 13
             with_reducible refine(HB.out.2.2.1 _ HB.out.1).mono ?_
             rintro e w5 ⟨h,t,rfl,hz,hD,hln,hg⟩
             obtain⟨rfl,rfl⟩:=hz rfl
             have H5:=Lib.hid (And.intro hD (Below.grown HB.out.2.1 hg HB.out.2.1.size (fun k hk=>by injection hk with hk;have:=H4.out.2.2;omega)))
             have hAr:=HC.out.2.2.keep (H5.out.2.alloc H5.out.2.size (.cells #[.int .i64 0,.int .i64 0] 33)) (Nat.le_refl _)
             obtain⟨y0,y1,y2⟩:=ez_at' hAr HB.out.2.2.2.2.2.2
             clear hAr hD hg)
          | (go_at_call 10
             with_reducible refine(HB.out.2.2.2.1 _).mono ?_
             rintro e w6 ⟨rfl,hb6⟩
             have hK0:=(Bk.new w5 33 #[.int .i64 0,.int .i64 0])
             have hk6:=hK0.below hb6 (by simp)
             have k60:w6.cell? ⟨w5.heap.size,0,none⟩=some (.int .i64 0):=by rw[hk6.cell];rfl
             have k61:w6.cell? ⟨w5.heap.size,1,none⟩=some (.int .i64 0):=by rw[hk6.cell];rfl
             have hb56:=((Below.refl _ w5).alloc (Nat.le_refl _) (.cells #[.int .i64 0,.int .i64 0] 33)).trans (hb6.mono (by simp))
             have H6:=Lib.hid (And.intro (H5.out.1.next hb56) (H5.out.2.trans (hb56.mono H5.out.2.size)))
             have hAr:=HC.out.2.2.keep H6.out.2 (Nat.le_refl _)
             obtain⟨y0,y1,y2⟩:=ez_at' hAr HB.out.2.2.2.2.2.2
             clear hb6 hK0 hk6 hb56 hAr)
          | (go_at_call 18
             refine(right10_m g _ _ H6.out.1 (by omega)).mono ?_
             rintro e w8 ⟨rfl,hb8⟩
             have H8:=Lib.hid (And.intro (H6.out.1.next hb8) (H6.out.2.trans (hb8.mono H6.out.2.size)))
             clear hb8))
        exact⟨⟨k+1,_,by omega,rfl,by go_num,by omega,H8.out.1,H8.out.2⟩,by simp[intOf]<;>omega⟩
       ·go_wp2_with (first
          | (go_at_call 13
             with_reducible refine(HB.out.2.2.1 _ HB.out.1).mono ?_
             rintro e w5 ⟨h,t,rfl,hz,hD,hln,hg⟩
             have hl9:=tb9 _ hln
             have hl8:=tb8 _ hln
             have H5:=Lib.hid (And.intro hD (Below.grown HB.out.2.1 hg HB.out.2.1.size (fun k hk=>by injection hk with hk;have:=H4.out.2.2;omega)))
             have hAr:=HC.out.2.2.keep (H5.out.2.alloc H5.out.2.size (.cells #[.int .i64 h,.int .i64 t] 33)) (Nat.le_refl _)
             obtain⟨y0,y1,y2⟩:=ez_at' hAr HB.out.2.2.2.2.2.2
             clear hAr hD hg)
          | (go_at_call 10
             with_reducible refine(HB.out.2.2.2.1 _).mono ?_
             rintro e w6 ⟨rfl,hb6⟩
             have hK0:=(Bk.new w5 33 #[.int .i64 h,.int .i64 t])
             have hk6:=hK0.below hb6 (by simp)
             have k60:w6.cell? ⟨w5.heap.size,0,none⟩=some (.int .i64 h):=by rw[hk6.cell];rfl
             have k61:w6.cell? ⟨w5.heap.size,1,none⟩=some (.int .i64 t):=by rw[hk6.cell];rfl
             have hb56:=((Below.refl _ w5).alloc (Nat.le_refl _) (.cells #[.int .i64 h,.int .i64 t] 33)).trans (hb6.mono (by simp))
             have H6:=Lib.hid (And.intro (H5.out.1.next hb56) (H5.out.2.trans (hb56.mono H5.out.2.size)))
             have hAr:=HC.out.2.2.keep H6.out.2 (Nat.le_refl _)
             obtain⟨y0,y1,y2⟩:=ez_at' hAr HB.out.2.2.2.2.2.2
             clear hb6 hK0 hk6 hb56 hAr)
          | (go_at_call 14
             with_reducible refine(HB.out.2.2.2.2.1 (by first|trivial|rfl) _).mono ?_
             rintro e w7 ⟨rfl,hb7⟩
             have H7:=Lib.hid (And.intro (H6.out.1.next hb7) (H6.out.2.trans (hb7.mono H6.out.2.size)))
             clear hb7)
          | (go_at_call 18
             refine(right10_m g _ _ H7.out.1 hl9).mono ?_
             rintro e w8 ⟨rfl,hb8⟩
             have H8:=Lib.hid (And.intro (H7.out.1.next hb8) (H7.out.2.trans (hb8.mono H7.out.2.size)))
             clear hb8))
        exact⟨⟨k+1,l',by omega,rfl,by go_num,hl8,H8.out.1,H8.out.2⟩,by simp[intOf]<;>omega⟩
      ·obtain rfl:k=xs.length:=by omega
       have HB:=Lib.hid hb
       clear hb hD
       go_wp2_with fail
       go_ret
       exact⟨rfl,HB.out⟩
end Go.Proofs.YtclllfmbldeneaaGreatDoor
