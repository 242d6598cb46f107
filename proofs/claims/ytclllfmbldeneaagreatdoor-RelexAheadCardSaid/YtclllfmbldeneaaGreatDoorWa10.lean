/- RelexAhead: the walk. Behind whatever edits the lexing ahead of each token is the one that the document says; there is none of another number. -/
import Derived.Test.YtclllfmbldeneaaGreatDoorRa10
namespace Go.Proofs.YtclllfmbldeneaaGreatDoor
open Go.RowKit
set_option linter.unusedVariables false
set_option linter.unusedSimpArgs false
set_option maxRecDepth 100000
theorem dah_in (g:Nat) (l:List UInt8) (i:Nat) (w:World) (hD:DocP w g l) (hl:l.length≤900) (hi:i<(plcs l).length) :
    Calls Tryz.prog 24 #[.pointer (some ⟨g,0,none⟩),.int .i64 (i:Int)] w fun e w'=>∃v',e=.returned (.tuple #[.agg #[.int .i64 (stF l i 0 lx0).2.aw,v',.bool (stF l i 0 lx0).2.bd],.bool true])∧Rt w' 83 2 v' (stF l i 0 lx0).2.pd.length (dcls (stF l i 0 lx0).2.pd)∧Below w.heap.size w w':=by
  obtain⟨xs,lv,pv,hpr,hD,hr⟩:=hD
  obtain⟨hlen1,hlen2⟩:=prx_len hpr
  obtain⟨q,hq⟩:∃q,xs[i]? = some q:=⟨_,List.getElem?_eq_getElem (by omega)⟩
  have h2:(plcs l)[i]? = some (q.t,q.X):=by rw[←hpr];simp[prx,hq]
  have h3:q.X=(stF l i 0 lx0).2:=(plc_fr h2).2
  have h4:=stF_pd l i 0 lx0 (Nat.le_refl _)
  have h5:=stF_le l i 0 lx0 (Nat.zero_le _)
  have h:=ahead_in g l _ xs lv pv i q w hD hr (by omega) hq (by rw[h3];omega)
  rwa [h3] at h
theorem dah_out (g:Nat) (l:List UInt8) (p:Int) (w:World) (hD:DocP w g l) (hl:l.length≤900) (hp:p<0∨((plcs l).length:Int)≤p) :
    Calls Tryz.prog 24 #[.pointer (some ⟨g,0,none⟩),.int .i64 p] w fun e w'=>e=.returned (.tuple #[.agg #[.int .i64 0,.slice none 0 0,.bool false],.bool false])∧Below w.heap.size w w':=by
  obtain⟨xs,lv,pv,hpr,hD,hr⟩:=hD
  obtain⟨hlen1,hlen2⟩:=prx_len hpr
  exact ahead_out g l _ xs lv pv p w hD hr (by omega) (by rw[hlen1];exact hp)
set_option maxHeartbeats 4000000 in
theorem relexAhead_w (l0:List UInt8) (xs:List Ez) (A:Option Addr) (n c:Nat) (p:Int) (w:World) (hm:l0.length≤9223372036854775807) (hrd:Rd w w.heap.size 3 (.slice A n c) n (ezcs xs)) (hn:n=xs.length) (hm1:n≤9223372036854775807) (hp : -9223372036854775808≤p∧p≤9223372036854775807) :
    Calls Tryz.prog 6 #[.string ⟨l0.toArray⟩,.slice A n c,.int .i64 p] w fun e w'=>e=.returned (.bool true)∧Below w.heap.size w w':=by
  subst hn
  by_cases h100:(100:Int)<(l0.length:Int)
  ·go_enter Tryz.func6,Tryz.ntmps6
   go_wp2_with (
     (go_at_call 9
      refine(awake10_c _).mono ?_
      rintro e w1 ⟨rfl,hb⟩
      have H:=Lib.hid hb
      clear hb))
   go_ret
   exact⟨rfl,H.out⟩
  ·obtain⟨sb,hsb⟩:∃sb,sb=shortL xs 5:=⟨_,rfl⟩
   have c1:∀W,Below w.heap.size w W→Calls Tryz.prog 17 #[.slice A xs.length c,.int .i64 5] W fun e w'=>e=.returned (.bool sb)∧Below W.heap.size W w':=fun W hW=>by rw[hsb];exact short10_m xs A c 5 W hm1 ((hrd.keep hW (Nat.le_refl _)).mono hW.size)
   have HC:=Lib.hid (And.intro c1 (And.intro hsb hrd))
   clear c1 hsb hrd
   cases sb
   ·go_enter Tryz.func6,Tryz.ntmps6
    go_wp2_with (first
      | (go_at_call 9
         refine(awake10_c _).mono ?_
         rintro e w1 ⟨rfl,hb⟩
         have H:=Lib.hid hb
         clear hb)
      | (go_at_call 17
         with_reducible refine(HC.out.1 _ H.out).mono ?_
         rintro e w2 ⟨rfl,hb⟩
         have H2:=Lib.hid (H.out.trans (hb.mono H.out.size))
         clear hb))
    go_ret
    exact⟨rfl,H2.out⟩
   ·obtain⟨hx8,hxs⟩:=shortL_out HC.out.2.1.symm
    have HX:=Lib.hid hxs
    clear hxs
    go_enter Tryz.func6,Tryz.ntmps6
    go_wp2_with (first
      | (go_at_call 9
         refine(awake10_c _).mono ?_
         rintro e w1 ⟨rfl,hb⟩
         have H:=Lib.hid hb
         clear hb)
      | (go_at_call 17
         with_reducible refine(HC.out.1 _ H.out).mono ?_
         rintro e w2 ⟨rfl,hb⟩
         have H2:=Lib.hid (H.out.trans (hb.mono H.out.size))
         clear hb)
      | (go_at_call 11
         refine(new10_m l0 _ (by omega)).mono ?_
         rintro e w3 ⟨g,rfl,hg,hD,hb⟩
         have H4:=Lib.hid (And.intro hD (And.intro (H2.out.trans (hb.mono H2.out.size)) (Nat.le_trans H2.out.size hg)))
         clear hg hD hb))
    go_loopw [0,9] (fun s i wr=>∃(k:Nat) (l:List UInt8),k≤xs.length∧s=.string ⟨l.toArray⟩∧i=.int .i64 k∧l.length≤100+60*k∧DocP wr g l∧Below w.heap.size w wr) (fun s i _=>xs.length-(intOf i).toNat)
    case atStart=>exact⟨0,l0,Nat.zero_le _,rfl,rfl,by omega,H4.out.1,H4.out.2.1⟩
    case round=>
      obtain⟨k,l,hk,rfl,rfl,hl,hD,hb⟩:=hrel
      by_cases hlt:k<xs.length
      ·have u1:(k:Int)<(xs.length:Int):=by omega
       have u2:(0:Int)≤(k:Int):=by omega
       obtain⟨x,hx⟩:∃x,xs[k]? = some x:=⟨_,List.getElem?_eq_getElem hlt⟩
       have hxz:=HX.out x (List.mem_of_getElem? hx)
       obtain⟨ok,hok⟩:∃ok,ok=okE l x.d x.a:=⟨_,rfl⟩
       obtain⟨l',hl'⟩:∃l',l'=edT l x:=⟨_,rfl⟩
       have c1:∀W,DocP W g l→Calls Tryz.prog 13 #[.pointer (some ⟨g,0,none⟩),.agg #[.int .i64 x.a,.string ⟨x.d.toArray⟩,.string ⟨x.i.toArray⟩]] W fun e w'=>∃h t v:Int,e=.returned (.tuple #[.agg #[.int .i64 h,.int .i64 t],.int .i64 v])∧DocP w' g l'∧l'.length≤l.length+60∧W.grownBy w' (some g):=fun W hW=>by
         refine(apply_m g l x W hW (by omega) hxz).mono ?_
         rintro e w' ⟨h,t,rfl,h1,_,h2,h3,h4⟩
         rw[hl']
         exact⟨h,t,_,rfl,h2,h3,h4⟩
       have hz:=hxz
       unfold shortZ at hz
       simp only[Bool.and_eq_true,decide_eq_true_eq] at hz
       have c2:∀W,Calls Tryz.prog 10 #[.string ⟨l.toArray⟩,.agg #[.int .i64 x.a,.string ⟨x.d.toArray⟩,.string ⟨x.i.toArray⟩]] W fun e w'=>e=.returned (.int .i64 (if ok=true then 0 else 1))∧Below W.heap.size W w':=fun W=>by
         rw[hok]
         exact wrong_m l x.d x.i x.a W (by omega) (by omega) (by omega) x.ha
       have c3:ok=true→∀W,Calls Tryz.prog 14 #[.string ⟨l.toArray⟩,.agg #[.int .i64 x.a,.string ⟨x.d.toArray⟩,.string ⟨x.i.toArray⟩]] W fun e w'=>e=.returned (.string ⟨l'.toArray⟩)∧Below W.heap.size W w':=fun ho W=>by
         rw[hok] at ho
         rw[hl']
         unfold edT
         rw[if_pos ho]
         exact rdo_m l x.d x.i x.a W (by omega) (by omega) (by omega) ho
       have hsame:ok=false→l'=l:=fun ho=>by rw[hl'];unfold edT;rw[if_neg (by rw[←hok,ho];decide)]
       obtain⟨ga,oa,hA,_,y0,y1,y2⟩:=ez_at (HC.out.2.2.keep hb (Nat.le_refl _)) hx rfl
       have HB:=Lib.hid (And.intro hD (And.intro hb (And.intro c1 (And.intro c2 (And.intro c3 (And.intro hsame hx))))))
       clear hD hb c1 c2 c3 hsame hok hl' hxz hx hz
       subst hA
       have tb8:∀n,n≤l.length+60→n≤100+60*(k+1):=fun n h=>by omega
       cases ok
       case' false=>obtain rfl:=HB.out.2.2.2.2.2.1 (by first|trivial|rfl)
       all_goals (
         go_wp2_with (first
           | (go_at_call 13
              with_reducible refine(HB.out.2.2.1 _ HB.out.1).mono ?_
              rintro e w5 ⟨h,t,v,rfl,hD,hln,hg⟩
              have hl8:=tb8 _ hln
              have H5:=Lib.hid (And.intro hD (Below.grown HB.out.2.1 hg HB.out.2.1.size (fun k hk=>by injection hk with hk;have:=H4.out.2.2;omega)))
              obtain⟨y0,y1,y2⟩:=ez_at' (HC.out.2.2.keep H5.out.2 (Nat.le_refl _)) HB.out.2.2.2.2.2.2
              clear hD hg)
           | (go_at_call 10
              with_reducible refine(HB.out.2.2.2.1 _).mono ?_
              rintro e w6 ⟨rfl,hb6⟩
              have H6:=Lib.hid (And.intro (H5.out.1.next hb6) (H5.out.2.trans (hb6.mono H5.out.2.size)))
              obtain⟨y0,y1,y2⟩:=ez_at' (HC.out.2.2.keep H6.out.2 (Nat.le_refl _)) HB.out.2.2.2.2.2.2
              have H7:=H6
              clear hb6)
           | (go_at_call 14
              with_reducible refine(HB.out.2.2.2.2.1 (by first|trivial|rfl) _).mono ?_
              rintro e w7 ⟨rfl,hb7⟩
              have H7:=Lib.hid (And.intro (H6.out.1.next hb7) (H6.out.2.trans (hb7.mono H6.out.2.size)))
              clear hb7))
         exact⟨⟨k+1,_,by omega,rfl,by go_num,hl8,H7.out.1,H7.out.2⟩,by simp[intOf]<;>omega⟩)
      ·obtain rfl:k=xs.length:=by omega
       have HB:=Lib.hid (And.intro hD hb)
       have hl9:l.length≤580:=by omega
       clear hb hD
       have hM0:(plcs l).length≤l.length-0:=plc_len l 0 lx0
       obtain⟨M,hM⟩:∃M,M=(plcs l).length:=⟨_,rfl⟩
       have hM9:M≤900:=by omega
       have cin:∀(i:Nat) W,DocP W g l→i<M→Calls Tryz.prog 24 #[.pointer (some ⟨g,0,none⟩),.int .i64 (i:Int)] W fun e w'=>∃v',e=.returned (.tuple #[.agg #[.int .i64 (stF l i 0 lx0).2.aw,v',.bool (stF l i 0 lx0).2.bd],.bool true])∧Rt w' 83 2 v' (stF l i 0 lx0).2.pd.length (dcls (stF l i 0 lx0).2.pd)∧Below W.heap.size W w':=fun i W hW hi=>dah_in g l i W hW (by omega) (by omega)
       have cout:∀W,DocP W g l→(p<0∨(M:Int)≤p)→Calls Tryz.prog 24 #[.pointer (some ⟨g,0,none⟩),.int .i64 p] W fun e w'=>e=.returned (.tuple #[.agg #[.int .i64 0,.slice none 0 0,.bool false],.bool false])∧Below W.heap.size W w':=fun W hW hi=>dah_out g l p W hW (by omega) (by rw[hM] at hi;exact hi)
       have cah:=fun W=>rahead_m l W (by omega)
       rw[←hM] at cah
       have czz:∀W,Calls Tryz.prog 22 #[.agg #[.int .i64 0,.slice none 0 0,.bool false],.agg #[.int .i64 0,.slice none 0 0,.bool false]] W fun e w'=>e=.returned (.bool true)∧Below W.heap.size W w':=fun W=>by
         have h:=same9_r lx0 lx0 none none 0 0 W (Rd.nil _ _ _) (Rd.nil _ _ _) (by decide) (by decide)
         rwa [(sameL_iff lx0 lx0).2 rfl] at h
       have css:∀(X:Lx) (A A':Option Addr) (c c':Nat) (W:World),X.pd.length≤900→Rt W 83 2 (.slice A X.pd.length c) X.pd.length (dcls X.pd)→Rt W 83 2 (.slice A' X.pd.length c') X.pd.length (dcls X.pd)→Calls Tryz.prog 22 #[.agg #[.int .i64 X.aw,.slice A X.pd.length c,.bool X.bd],.agg #[.int .i64 X.aw,.slice A' X.pd.length c',.bool X.bd]] W fun e w'=>e=.returned (.bool true)∧Below W.heap.size W w':=fun X A A' c c' W hX h1 h2=>by
         have h:=same9_r X X A A' c c' W h1.rd h2.rd (by omega) (by omega)
         rwa [(sameL_iff X X).2 rfl] at h
       have HL:=Lib.hid (And.intro cin (And.intro cout (And.intro cah (And.intro czz css))))
       clear cin cout cah czz css hM0 hM
       go_upto_region 15 with (
         (go_at_call 23
          with_reducible refine(HL.out.2.2.1 _).mono ?_
          rintro e w6 ⟨v,qs,rfl,ho,hq1,hq2,hb6⟩
          obtain⟨A6,n6,c6,rfl⟩:=own_form' ho
          obtain rfl:=own_len ho
          have H6:=Lib.hid (And.intro (HB.out.1.next hb6) (And.intro (HB.out.2.trans (hb6.mono HB.out.2.size)) (And.intro (Rd.of_own ho) hq2)))
          clear ho hq2 hb6))
       have hqM:(qs.length:Int)-1=(M:Int):=by omega
       have vw:IntKind.i64.wrap ((qs.length:Int)-1)=(M:Int):=by rw[IntWalk.i64_in _ (by omega)];exact hqM
       have HqM:=Lib.hid (And.intro hq1 hqM)
       clear hq1 hqM
       go_wp2
       go_loopw [11] (fun i wr=>∃k:Nat,k≤M∧i=.int .i64 k∧Below w6.heap.size w6 wr) (fun i _=>M-(intOf i).toNat)
       case atStart=>exact⟨0,Nat.zero_le _,rfl,Below.refl _ _⟩
       case round=>
         obtain⟨k,hk,rfl,hb⟩:=hrel
         have HK:=Lib.hid hb
         clear hb
         by_cases hlt:k<M
         ·have u1:(k:Int)<(M:Int):=by omega
          have u2:(0:Int)≤(k:Int):=by omega
          have u3:(k:Int)<(M:Int)+1:=by omega
          obtain⟨q,hq⟩:∃q,qs[k]? = some q:=⟨_,List.getElem?_eq_getElem (by have:=HqM.out.1;omega)⟩
          obtain⟨qX,hrt⟩:=H6.out.2.2.2 k q hq
          obtain⟨X,qv⟩:=q
          replace hrt:Rt w6 83 2 qv X.pd.length (dcls X.pd):=hrt
          replace qX:X=(stF l k 0 lx0).2:=qX
          obtain⟨B1,d1,rfl⟩:=hrt.form
          have hXl:X.pd.length≤900:=by
            have h1:=stF_pd l k 0 lx0 (Nat.le_refl _)
            have h2:=stF_le l k 0 lx0 (Nat.zero_le _)
            rw[qX]
            omega
          have cA:∀W,DocP W g l→Calls Tryz.prog 24 #[.pointer (some ⟨g,0,none⟩),.int .i64 (k:Int)] W fun e w'=>∃v',e=.returned (.tuple #[.agg #[.int .i64 X.aw,v',.bool X.bd],.bool true])∧Rt w' 83 2 v' X.pd.length (dcls X.pd)∧Below W.heap.size W w':=fun W hW=>by rw[qX];exact HL.out.1 k W hW hlt
          obtain⟨gq,oq,rfl,hgq,hcq⟩:=rd_sat lvc_len H6.out.2.2.1 hq rfl
          have y0:w6.cell? ⟨gq,oq+k*3,none⟩=some (.int .i64 X.aw):=hcq 0 _ rfl
          have y1:w6.cell? ⟨gq,oq+k*3+1,none⟩=some (.slice B1 X.pd.length d1):=hcq 1 _ rfl
          have y2:w6.cell? ⟨gq,oq+k*3+2,none⟩=some (.bool X.bd):=hcq 2 _ rfl
          have HA:=Lib.hid (And.intro cA (And.intro hrt (And.intro y0 (And.intro y1 y2))))
          clear cA hrt y0 y1 y2 hcq qX hq
          go_upto_region 19 with (
            (go_at_call 24
             with_reducible refine(HA.out.1 _ (H6.out.1.next HK.out)).mono ?_
             rintro e w8 ⟨v,rfl,hr,hb8⟩
             obtain⟨B2,d2,rfl⟩:=hr.form
             have H8:=Lib.hid (And.intro (HK.out.trans (hb8.mono HK.out.size)) hr)
             clear hb8 hr))
          refine gen1 fun W9 hb9 k9 _=>?_
          have hb69:=H8.out.1.trans (hb9.mono H8.out.1.size)
          obtain⟨z0,z1,z2,_⟩:=k9.three
          have y0:=bkeep hb69 HA.out.2.2.1
          have y1:=bkeep hb69 HA.out.2.2.2.1
          have y2:=bkeep hb69 HA.out.2.2.2.2
          have H9:=Lib.hid (And.intro hb69 (And.intro (HA.out.2.1.next hb69) (H8.out.2.next hb9)))
          clear hb9 k9 hb69
          go_region_held3 (fun w'=>w'.cell? ⟨w8.heap.size,0,none⟩=some (.int .i64 X.aw)∧w'.cell? ⟨w8.heap.size,1,none⟩=some (.slice B2 X.pd.length d2)∧w'.cell? ⟨w8.heap.size,2,none⟩=some (.bool X.bd)∧w'.cell? ⟨gq,oq+k*3,none⟩=some (.int .i64 X.aw)∧w'.cell? ⟨gq,oq+k*3+1,none⟩=some (.slice B1 X.pd.length d1)∧w'.cell? ⟨gq,oq+k*3+2,none⟩=some (.bool X.bd))
           (first|with_reducible exact⟨z0,z1,z2,y0,y1,y2⟩|exact⟨z0,z1,z2,y0,y1,y2⟩)
           (
            (go_at_call 22
             refine(HL.out.2.2.2.2 X _ _ _ _ _ hXl (H9.out.2.2.next (Below.refl _ W9).drew) (H9.out.2.1.next (Below.refl _ W9).drew)).mono ?_
             rintro e w10 ⟨rfl,hb10⟩
             have z0:=bkeep hb10 z0
             have z1:=bkeep hb10 z1
             have z2:=bkeep hb10 z2
             have y0:=bkeep hb10 y0
             have y1:=bkeep hb10 y1
             have y2:=bkeep hb10 y2
             have H10:=Lib.hid (H9.out.1.trans (((Below.refl _ W9).drew.trans hb10).mono H9.out.1.size))
             clear hb10))
          go_wp2_with fail
          exact⟨⟨k+1,by omega,by go_num,H10.out⟩,by simp[intOf]<;>omega⟩
         ·obtain rfl:k=M:=by omega
          by_cases hp1:p<0∨(k:Int)≤p
          ·have hw:(decide (p<0)=true)∨(decide (p<0)=false∧decide ((k:Int)≤p)=true):=by
             by_cases h:p<0
             ·exact .inl (decide_eq_true h)
             ·exact .inr ⟨decide_eq_false h,decide_eq_true (by omega)⟩
           have HP:=Lib.hid hp1
           clear hp1
           rcases hw with d1|⟨d1,d2⟩
           all_goals (
             go_wp2_with (first
               | (go_at_call 24
                  with_reducible refine(HL.out.2.1 _ (H6.out.1.next HK.out) HP.out).mono ?_
                  rintro e w8 ⟨rfl,hb8⟩
                  have hb68:=H6.out.2.1.trans ((HK.out.trans (hb8.mono HK.out.size)).mono H6.out.2.1.size)
                  have H8:=Lib.hid (hb68.alloc hb68.size (.cells #[.int .i64 0,.slice none 0 0,.bool false] 48))
                  clear hb8 hb68)
               | (go_at_call 22
                  with_reducible refine(HL.out.2.2.2.1 _).mono ?_
                  rintro e w9 ⟨rfl,hb9⟩
                  have H9:=Lib.hid (H8.out.trans (hb9.mono H8.out.size))
                  clear hb9))
             go_ret
             exact⟨rfl,H9.out⟩)
          ·obtain⟨i,rfl⟩:∃i:Nat,p=(i:Int):=⟨p.toNat,by omega⟩
           have d1:decide ((i:Int)<0)=false:=decide_eq_false (by omega)
           have d2:¬(k:Int)≤(i:Int):=by omega
           have hi:i<k:=by omega
           go_wp2_with (
             (go_at_call 24
              with_reducible refine(HL.out.1 i _ (H6.out.1.next HK.out) hi).mono ?_
              rintro e w8 ⟨v,rfl,hr,hb8⟩
              obtain⟨B2,e2,rfl⟩:=hr.form
              have hb68:=H6.out.2.1.trans ((HK.out.trans (hb8.mono HK.out.size)).mono H6.out.2.1.size)
              have H8:=Lib.hid (hb68.alloc hb68.size (.cells #[.int .i64 (stF l i 0 lx0).2.aw,.slice B2 (stF l i 0 lx0).2.pd.length e2,.bool (stF l i 0 lx0).2.bd] 48))
              clear hb8 hb68 hr))
           go_ret
           exact⟨rfl,H8.out⟩
end Go.Proofs.YtclllfmbldeneaaGreatDoor
