/- RelexLeaves: the walk. Behind whatever edits the leaves are those that the document says of the text alone. -/
import Derived.Test.YtclllfmbldeneaaGreatDoorCn10
import Derived.Test.YtclllfmbldeneaaGreatDoorTo10
import Derived.Test.YtclllfmbldeneaaGreatDoorLv9
namespace Go.Proofs.YtclllfmbldeneaaGreatDoor
open Go.RowKit
set_option linter.unusedVariables false
set_option linter.unusedSimpArgs false
set_option maxRecDepth 100000
theorem lfc_len1 (x:Lf):(lfc x).length=4:=rfl
set_option maxHeartbeats 4000000 in
theorem relexLeaves_w (l0:List UInt8) (xs:List Ez) (A:Option Addr) (n c:Nat) (w:World) (hm:l0.length≤9223372036854775807) (hrd:Rd w w.heap.size 3 (.slice A n c) n (ezcs xs)) (hn:n=xs.length) (hm1:n≤9223372036854775807) :
    Calls Tryz.prog 7 #[.string ⟨l0.toArray⟩,.slice A n c] w fun e w'=>e=.returned (.bool true)∧Below w.heap.size w w':=by
  subst hn
  by_cases h100:(100:Int)<(l0.length:Int)
  ·go_enter Tryz.func7,Tryz.ntmps7
   go_wp2_with (
     (go_at_call 9
      refine(awake10_c _).mono ?_
      rintro e w1 ⟨rfl,hb⟩
      have H:=Lib.hid hb
      clear hb))
   go_ret
   exact⟨rfl,H.out⟩
  ·obtain⟨sb,hsb⟩:∃sb,sb=shortL xs 5:=⟨_,rfl⟩
   have c1:∀W,Below w.heap.size w W→Calls Tryz.prog 17 #[.slice A xs.length c,.int .i64 5] W fun e w'=>e=.returned (.bool sb)∧Below W.heap.size W w':=fun W hW=>by rw[hsb];exact short10_m xs A c 5 W hm1 ((hrd.keep hW (Nat.le_refl _)).mono hW.size)
   have HC:=Lib.hid (And.intro c1 (And.intro hsb hrd))
   clear c1 hsb hrd
   cases sb
   ·go_enter Tryz.func7,Tryz.ntmps7
    go_wp2_with (first
      | (go_at_call 9
         refine(awake10_c _).mono ?_
         rintro e w1 ⟨rfl,hb⟩
         have H:=Lib.hid hb
         clear hb)
      | (go_at_call 17
         with_reducible refine(HC.out.1 _ H.out).mono ?_
         rintro e w2 ⟨rfl,hb⟩
         have H2:=Lib.hid (H.out.trans (hb.mono H.out.size))
         clear hb))
    go_ret
    exact⟨rfl,H2.out⟩
   ·obtain⟨hx8,hxs⟩:=shortL_out HC.out.2.1.symm
    have HX:=Lib.hid hxs
    clear hxs
    go_enter Tryz.func7,Tryz.ntmps7
    go_wp2_with (first
      | (go_at_call 9
         refine(awake10_c _).mono ?_
         rintro e w1 ⟨rfl,hb⟩
         have H:=Lib.hid hb
         clear hb)
      | (go_at_call 17
         with_reducible refine(HC.out.1 _ H.out).mono ?_
         rintro e w2 ⟨rfl,hb⟩
         have H2:=Lib.hid (H.out.trans (hb.mono H.out.size))
         clear hb)
      | (go_at_call 11
         refine(new10_m l0 _ (by omega)).mono ?_
         rintro e w3 ⟨g,rfl,hg,hD,hb⟩
         have H4:=Lib.hid (And.intro hD (And.intro (H2.out.trans (hb.mono H2.out.size)) (Nat.le_trans H2.out.size hg)))
         clear hg hD hb))
    go_loopw [0,7] (fun s i wr=>∃(k:Nat) (l:List UInt8),k≤xs.length∧s=.string ⟨l.toArray⟩∧i=.int .i64 k∧l.length≤100+60*k∧DocP wr g l∧Below w.heap.size w wr) (fun s i _=>xs.length-(intOf i).toNat)
    case atStart=>exact⟨0,l0,Nat.zero_le _,rfl,rfl,by omega,H4.out.1,H4.out.2.1⟩
    case round=>
      obtain⟨k,l,hk,rfl,rfl,hl,hD,hb⟩:=hrel
      by_cases hlt:k<xs.length
      ·have u1:(k:Int)<(xs.length:Int):=by omega
       have u2:(0:Int)≤(k:Int):=by omega
       obtain⟨x,hx⟩:∃x,xs[k]? = some x:=⟨_,List.getElem?_eq_getElem hlt⟩
       have hxz:=HX.out x (List.mem_of_getElem? hx)
       obtain⟨ok,hok⟩:∃ok,ok=okE l x.d x.a:=⟨_,rfl⟩
       obtain⟨l',hl'⟩:∃l',l'=edT l x:=⟨_,rfl⟩
       have c1:∀W,DocP W g l→Calls Tryz.prog 13 #[.pointer (some ⟨g,0,none⟩),.agg #[.int .i64 x.a,.string ⟨x.d.toArray⟩,.string ⟨x.i.toArray⟩]] W fun e w'=>∃h t v:Int,e=.returned (.tuple #[.agg #[.int .i64 h,.int .i64 t],.int .i64 v])∧DocP w' g l'∧l'.length≤l.length+60∧W.grownBy w' (some g):=fun W hW=>by
         refine(apply_m g l x W hW (by omega) hxz).mono ?_
         rintro e w' ⟨h,t,rfl,h1,_,h2,h3,h4⟩
         rw[hl']
         exact⟨h,t,_,rfl,h2,h3,h4⟩
       have hz:=hxz
       unfold shortZ at hz
       simp only[Bool.and_eq_true,decide_eq_true_eq] at hz
       have c2:∀W,Calls Tryz.prog 10 #[.string ⟨l.toArray⟩,.agg #[.int .i64 x.a,.string ⟨x.d.toArray⟩,.string ⟨x.i.toArray⟩]] W fun e w'=>e=.returned (.int .i64 (if ok=true then 0 else 1))∧Below W.heap.size W w':=fun W=>by
         rw[hok]
         exact wrong_m l x.d x.i x.a W (by omega) (by omega) (by omega) x.ha
       have c3:ok=true→∀W,Calls Tryz.prog 14 #[.string ⟨l.toArray⟩,.agg #[.int .i64 x.a,.string ⟨x.d.toArray⟩,.string ⟨x.i.toArray⟩]] W fun e w'=>e=.returned (.string ⟨l'.toArray⟩)∧Below W.heap.size W w':=fun ho W=>by
         rw[hok] at ho
         rw[hl']
         unfold edT
         rw[if_pos ho]
         exact rdo_m l x.d x.i x.a W (by omega) (by omega) (by omega) ho
       have hsame:ok=false→l'=l:=fun ho=>by rw[hl'];unfold edT;rw[if_neg (by rw[←hok,ho];decide)]
       obtain⟨ga,oa,hA,_,y0,y1,y2⟩:=ez_at (HC.out.2.2.keep hb (Nat.le_refl _)) hx rfl
       have HB:=Lib.hid (And.intro hD (And.intro hb (And.intro c1 (And.intro c2 (And.intro c3 (And.intro hsame hx))))))
       clear hD hb c1 c2 c3 hsame hok hl' hxz hx hz
       subst hA
       have tb8:∀n,n≤l.length+60→n≤100+60*(k+1):=fun n h=>by omega
       cases ok
       case' false=>obtain rfl:=HB.out.2.2.2.2.2.1 (by first|trivial|rfl)
       all_goals (
         go_wp2_with (first
           | (go_at_call 13
              with_reducible refine(HB.out.2.2.1 _ HB.out.1).mono ?_
              rintro e w5 ⟨h,t,v,rfl,hD,hln,hg⟩
              have hl8:=tb8 _ hln
              have H5:=Lib.hid (And.intro hD (Below.grown HB.out.2.1 hg HB.out.2.1.size (fun k hk=>by injection hk with hk;have:=H4.out.2.2;omega)))
              obtain⟨y0,y1,y2⟩:=ez_at' (HC.out.2.2.keep H5.out.2 (Nat.le_refl _)) HB.out.2.2.2.2.2.2
              clear hD hg)
           | (go_at_call 10
              with_reducible refine(HB.out.2.2.2.1 _).mono ?_
              rintro e w6 ⟨rfl,hb6⟩
              have H6:=Lib.hid (And.intro (H5.out.1.next hb6) (H5.out.2.trans (hb6.mono H5.out.2.size)))
              obtain⟨y0,y1,y2⟩:=ez_at' (HC.out.2.2.keep H6.out.2 (Nat.le_refl _)) HB.out.2.2.2.2.2.2
              have H7:=H6
              clear hb6)
           | (go_at_call 14
              with_reducible refine(HB.out.2.2.2.2.1 (by first|trivial|rfl) _).mono ?_
              rintro e w7 ⟨rfl,hb7⟩
              have H7:=Lib.hid (And.intro (H6.out.1.next hb7) (H6.out.2.trans (hb7.mono H6.out.2.size)))
              clear hb7))
         exact⟨⟨k+1,_,by omega,rfl,by go_num,hl8,H7.out.1,H7.out.2⟩,by simp[intOf]<;>omega⟩)
      ·obtain rfl:k=xs.length:=by omega
       have HB:=Lib.hid (And.intro hD hb)
       have hl9:l.length≤580:=by omega
       clear hb hD
       have hlv:∀W,DocP W g l→Calls Tryz.prog 25 #[.pointer (some ⟨g,0,none⟩)] W fun e w'=>∃v,e=.returned v∧w'.ownsRow W.heap.size 62 4 v (lvsL l).length (lfcs (lvsL l))∧Below W.heap.size W w':=fun W hW=>by
         obtain⟨ps,lv,pv,hpr,hD,hr⟩:=hW
         obtain⟨_,hlen2⟩:=prx_len hpr
         have h:=leaves10_m g l _ ps lv pv W hD hr (by omega) (by omega)
         rw[tkp_doc hpr] at h
         exact h
       have hrl:=fun W=>rleaves_m l W (by omega)
       have hll:(lvsL l).length≤580:=by
         have h1:=leavesZ_len l ((lexL l).1.map tz)
         have h2:=lexL_len l
         unfold lvsL
         rw[List.length_map] at h1
         omega
       generalize lvsL l=L at hlv hrl hll
       have HL:=Lib.hid (And.intro hlv hrl)
       clear hlv hrl
       go_wp2_with (first
         | (go_at_call 25
            with_reducible refine(HL.out.1 _ HB.out.1).mono ?_
            rintro e w4 ⟨v,rfl,ho,hb4⟩
            obtain⟨A4,n,c4,rfl⟩:=own_form' ho
            obtain rfl:=own_len ho
            have H8:=Lib.hid (And.intro ho (HB.out.2.trans (hb4.mono HB.out.2.size)))
            clear ho hb4)
         | (go_at_call 26
            with_reducible refine(HL.out.2 _).mono ?_
            rintro e w6 ⟨v,rfl,ho,hb6⟩
            obtain⟨A6,n,c6,rfl⟩:=own_form' ho
            obtain rfl:=own_len ho
            have H6:=Lib.hid (And.intro (Rd.of_own (own_below H8.out.1 hb6)) (And.intro (Rd.of_own ho) (H8.out.2.trans (hb6.mono H8.out.2.size))))
            clear ho hb6))
       go_loopw [10] (fun i wr=>∃k:Nat,k≤L.length∧i=.int .i64 k∧Below w6.heap.size w6 wr) (fun i _=>L.length-(intOf i).toNat)
       case atStart=>exact⟨0,Nat.zero_le _,rfl,Below.refl _ _⟩
       case round=>
         obtain⟨k,hk,rfl,hb⟩:=hrel
         by_cases hlt:k<L.length
         ·have u1:(k:Int)<(L.length:Int):=by omega
          have u2:(0:Int)≤(k:Int):=by omega
          obtain⟨t,ht⟩:∃t,L[k]? = some t:=⟨_,List.getElem?_eq_getElem hlt⟩
          obtain⟨g1,o,rfl,_,hc⟩:=rd_sat lfc_len1 (H6.out.1.keep hb (Nat.le_refl _)) ht rfl
          obtain⟨g',o',rfl,_,hc'⟩:=rd_sat lfc_len1 (H6.out.2.1.keep hb (Nat.le_refl _)) ht rfl
          have y0:wr.cell? ⟨g1,o+k*4,none⟩=some (.int .i64 t.kd):=hc 0 _ rfl
          have y1:wr.cell? ⟨g1,o+k*4+1,none⟩=some (.string ⟨t.tx.toArray⟩):=hc 1 _ rfl
          have y2:wr.cell? ⟨g1,o+k*4+2,none⟩=some (.int .i64 t.fr):=hc 2 _ rfl
          have y3:wr.cell? ⟨g1,o+k*4+3,none⟩=some (.int .i64 t.to):=hc 3 _ rfl
          have z0:wr.cell? ⟨g',o'+k*4,none⟩=some (.int .i64 t.kd):=hc' 0 _ rfl
          have z1:wr.cell? ⟨g',o'+k*4+1,none⟩=some (.string ⟨t.tx.toArray⟩):=hc' 1 _ rfl
          have z2:wr.cell? ⟨g',o'+k*4+2,none⟩=some (.int .i64 t.fr):=hc' 2 _ rfl
          have z3:wr.cell? ⟨g',o'+k*4+3,none⟩=some (.int .i64 t.to):=hc' 3 _ rfl
          have HQ:=Lib.hid hb
          clear hb hc hc' ht
          go_wp2_with fail
          go_quiet (fail)
          go_wp2_with fail
          exact⟨⟨k+1,by omega,by go_num,below_drewN' HQ.out _⟩,by simp[intOf]<;>omega⟩
         ·obtain rfl:k=L.length:=by omega
          have HQ:=Lib.hid hb
          clear hb
          go_wp2_with fail
          go_ret
          exact⟨rfl,H6.out.2.2.trans (HQ.out.mono H6.out.2.2.size)⟩
end Go.Proofs.YtclllfmbldeneaaGreatDoor
