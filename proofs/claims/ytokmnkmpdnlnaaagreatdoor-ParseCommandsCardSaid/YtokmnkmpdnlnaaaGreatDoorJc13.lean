/- The reference's parser: compounds. PRINTED by gen_jc13.py. -/
import Derived.Test.YtokmnkmpdnlnaaaGreatDoorJb13
import Derived.Deep.DeepCutAuto
import Derived.Deep.CutBlock
namespace Go.Proofs.YtokmnkmpdnlnaaaGreatDoor
open Go.RowKit
set_option linter.unusedVariables false
set_option linter.unusedSimpArgs false
set_option maxRecDepth 100000
theorem ck_tab (c:UInt8) (h:[123,40,105,119,114,99].contains c=true):∃m,m≤5∧cknd c=9+m∧(∀k,k≤5→(((([123,40,105,119,114,99]:List UInt8).getD k 0).toNat:Int)==(c.toNat:Int))=decide (m=k))∧c=([123,40,105,119,114,99]:List UInt8).getD m 0:=by
  have key:∀k,k≤5→k=0∨k=1∨k=2∨k=3∨k=4∨k=5:=fun k h=>by omega
  have h2:c=123∨c=40∨c=105∨c=119∨c=114∨c=99:=by simpa using h
  rcases h2 with rfl|rfl|rfl|rfl|rfl|rfl
  ·exact⟨0,by decide,rfl,fun k hk=>by rcases key k hk with rfl|rfl|rfl|rfl|rfl|rfl<;>rfl,rfl⟩
  ·exact⟨1,by decide,rfl,fun k hk=>by rcases key k hk with rfl|rfl|rfl|rfl|rfl|rfl<;>rfl,rfl⟩
  ·exact⟨2,by decide,rfl,fun k hk=>by rcases key k hk with rfl|rfl|rfl|rfl|rfl|rfl<;>rfl,rfl⟩
  ·exact⟨3,by decide,rfl,fun k hk=>by rcases key k hk with rfl|rfl|rfl|rfl|rfl|rfl<;>rfl,rfl⟩
  ·exact⟨4,by decide,rfl,fun k hk=>by rcases key k hk with rfl|rfl|rfl|rfl|rfl|rfl<;>rfl,rfl⟩
  ·exact⟨5,by decide,rfl,fun k hk=>by rcases key k hk with rfl|rfl|rfl|rfl|rfl|rfl<;>rfl,rfl⟩
section
variable {g:Nat} {fv:Value} {F:List Lf} {L:Ps→Ps} {q:Nat} {s:Ps} {W:World} (hF:FB F) (hL:GL F L) (HL:ListR g fv F L q)
include hF hL HL
set_option maxHeartbeats 8000000 in
theorem compound_q (hq:q≤s.p+1) (hB:Bd F 40 s) (hc:compB F s=true) (h:Nk g fv F s W) :
    Calls Tryz.prog 116 #[.pointer (some ⟨g,0,none⟩)] W fun e w'=>e=.returned (.tuple #[])∧Ny g fv F W (compP F L s) w':=by
  have hn:=hF.n
  have hlt:=comp_lt hc
  have us:(0:Int)≤(s.p:Int):=by omega
  have H0:=Lib.hid (Ny.start h)
  obtain⟨⟨_,c1,c3,_,_⟩,_⟩:=h.cells
  have hsl:=sgs_len F
  have hd:=sgs_at hlt
  obtain⟨c,hcc⟩:∃c,c=sg F s.p:=⟨_,rfl⟩
  rw[←hcc] at hd
  obtain⟨Z,hZ⟩:∃Z,Z=sgs F:=⟨_,rfl⟩
  rw[←hZ] at c1 hd hsl
  obtain⟨g1,g2⟩:=List.getElem?_eq_some_iff.1 hd
  have g3:(ByteArray.mk Z.toArray)[s.p]'(show s.p<Z.length from g1)=c:=g2
  have t1:(s.p:Int)<(Z.length:Int):=by omega
  obtain⟨m,hm5,hmk,hme,hmc⟩:=ck_tab c (by rw[hcc];exact((Bool.and_eq_true _ _).mp hc).2)
  obtain⟨K,hK⟩:∃K,K=9+m:=⟨_,rfl⟩
  have hKn:nestB K=true:=by
    have key:m=0∨m=1∨m=2∨m=3∨m=4∨m=5:=by omega
    rcases key with rfl|rfl|rfl|rfl|rfl|rfl<;>(rw[hK];rfl)
  have hK18:(decide (K≤18)&&nestB K)=true:=by rw[hKn,decide_eq_true (by omega)];rfl
  have hdp:s.deep<200:=of_decide_eq_true ((Bool.and_eq_true _ _).mp hc).1
  obtain⟨t0,ht0⟩:∃t0,t0=inN K {s with deep:=s.deep+1}:=⟨_,rfl⟩
  have hBt:Bd F 41 t0:=by rw[ht0];exact⟨hB.p,by rw[inN_l];have:=hB.l;show s.l.length+1≤46*s.p+41;omega,by show s.deep+1≤200;omega⟩
  have htp:t0.p=s.p:=by rw[ht0];rfl
  have ht5:(inN K {s with deep:=s.deep+1}).p≤100000:=by show s.p≤_;omega
  obtain⟨T0,hT0⟩:∃T0,T0=nextP t0:=⟨_,rfl⟩
  have hTB:Bd F 0 T0:=by rw[hT0];exact hBt.next (by omega) (by omega)
  have hqT:q≤T0.p:=by rw[hT0];show q≤t0.p+1;omega
  obtain⟨f,hf⟩:∃f:Ps→Ps,f=fun t=>redirsP F (insP F L c (nextP t)):=⟨_,rfl⟩
  have hx:compP F L s=nestP K f s:=by rw[hf,hK,←hmk,hcc];rfl
  obtain⟨BG,hBG,hG⟩:∃B,B≤1000∧Gd F.length B t0 (f t0):=by
    have gn:=(Gd.next (N:=F.length) (s:=t0) (by omega)).1
    have gi:=gd_ins hL c gn.N
    exact⟨0+14+0,by omega,by rw[hf];exact(gn.trans gi).trans (gd_redirs gi.N)⟩
  have HX:=Lib.hid hx
  have HF0:=Lib.hid hf
  have HG:=Lib.hid hG
  have HGE:=Lib.hid (show Gd F.length BG (inN K {s with deep:=s.deep+1}) (f (inN K {s with deep:=s.deep+1})) by rw[←ht0];exact hG)
  have HM:=Lib.hid (And.intro hmk (And.intro hme hmc))
  have HT0:=Lib.hid hT0
  have Ht0:=Lib.hid ht0
  have HE0:=Lib.hid (show T0=nextP (inN K {s with deep:=s.deep+1}) by rw[hT0,ht0])
  have HK:=Lib.hid hK
  clear hd hZ g2 h hmk hme hcc hmc hx hG hT0 ht0 htp hK hf
  go_enter Tryz.func116,Tryz.ntmps116
  go_wp2_with fail
  go_quiet (fail)
  have UQ:=Lib.hid (H0.out.drew nq)
  clear c1 c3 g3 g1 t1
  go_upto_block 0 with fail
  go_cut [3] (fun v wx=>v=.int .i64 (K:Int)∧W.drewN nq=wx)
  case first=>
    go_wp2_with fail
    go_loopw [3,4] (fun v i wr=>∃(k:Nat) (z:Nat),k≤6∧i=.int .i64 k∧v=.int .i64 (z:Int)∧z=(if m<k then 9+m else 9)∧W.drewN nq=wr) (fun v i _=>6-(intOf i).toNat)
    case atStart=>exact⟨0,9,by omega,rfl,rfl,rfl,rfl⟩
    case round=>
      obtain⟨k,z,hk,rfl,rfl,hz,hw⟩:=hrel
      subst hw
      have HZ:=Lib.hid hz
      clear hz
      have key:k=0∨k=1∨k=2∨k=3∨k=4∨k=5∨k=6:=by omega
      rcases key with rfl|rfl|rfl|rfl|rfl|rfl|rfl
      case inr.inr.inr.inr.inr.inr=>
        go_wp2_with fail
        go_meet
        exact⟨by rw[HZ.out,if_pos (by omega),HK.out],rfl⟩
      case inl=>
        have e:((((ByteArray.mk #[123,40,105,119,114,99])[0]'(by decide)).toNat:Int)==(c.toNat:Int))=decide (m=0):=HM.out.2.1 0 (by omega)
        by_cases hm:m=0
        ·rw[decide_eq_true hm] at e
         clear hm5
         go_wp2_with fail
         exact⟨⟨1,9,by omega,rfl,rfl,by rw[if_pos (by omega),hm],trivial⟩,by simp[intOf]⟩
        ·rw[decide_eq_false hm] at e
         go_wp2_with fail
         exact⟨⟨1,z,by omega,rfl,rfl,by rw[HZ.out];by_cases h9:m<0;(rw[if_pos h9,if_pos (by omega)]);(rw[if_neg h9,if_neg (by omega)]),trivial⟩,by simp[intOf]⟩
      case inr.inl=>
        have e:((((ByteArray.mk #[123,40,105,119,114,99])[1]'(by decide)).toNat:Int)==(c.toNat:Int))=decide (m=1):=HM.out.2.1 1 (by omega)
        by_cases hm:m=1
        ·rw[decide_eq_true hm] at e
         clear hm5
         go_wp2_with fail
         exact⟨⟨2,10,by omega,rfl,rfl,by rw[if_pos (by omega),hm],trivial⟩,by simp[intOf]⟩
        ·rw[decide_eq_false hm] at e
         go_wp2_with fail
         exact⟨⟨2,z,by omega,rfl,rfl,by rw[HZ.out];by_cases h9:m<1;(rw[if_pos h9,if_pos (by omega)]);(rw[if_neg h9,if_neg (by omega)]),trivial⟩,by simp[intOf]⟩
      case inr.inr.inl=>
        have e:((((ByteArray.mk #[123,40,105,119,114,99])[2]'(by decide)).toNat:Int)==(c.toNat:Int))=decide (m=2):=HM.out.2.1 2 (by omega)
        by_cases hm:m=2
        ·rw[decide_eq_true hm] at e
         clear hm5
         go_wp2_with fail
         exact⟨⟨3,11,by omega,rfl,rfl,by rw[if_pos (by omega),hm],trivial⟩,by simp[intOf]⟩
        ·rw[decide_eq_false hm] at e
         go_wp2_with fail
         exact⟨⟨3,z,by omega,rfl,rfl,by rw[HZ.out];by_cases h9:m<2;(rw[if_pos h9,if_pos (by omega)]);(rw[if_neg h9,if_neg (by omega)]),trivial⟩,by simp[intOf]⟩
      case inr.inr.inr.inl=>
        have e:((((ByteArray.mk #[123,40,105,119,114,99])[3]'(by decide)).toNat:Int)==(c.toNat:Int))=decide (m=3):=HM.out.2.1 3 (by omega)
        by_cases hm:m=3
        ·rw[decide_eq_true hm] at e
         clear hm5
         go_wp2_with fail
         exact⟨⟨4,12,by omega,rfl,rfl,by rw[if_pos (by omega),hm],trivial⟩,by simp[intOf]⟩
        ·rw[decide_eq_false hm] at e
         go_wp2_with fail
         exact⟨⟨4,z,by omega,rfl,rfl,by rw[HZ.out];by_cases h9:m<3;(rw[if_pos h9,if_pos (by omega)]);(rw[if_neg h9,if_neg (by omega)]),trivial⟩,by simp[intOf]⟩
      case inr.inr.inr.inr.inl=>
        have e:((((ByteArray.mk #[123,40,105,119,114,99])[4]'(by decide)).toNat:Int)==(c.toNat:Int))=decide (m=4):=HM.out.2.1 4 (by omega)
        by_cases hm:m=4
        ·rw[decide_eq_true hm] at e
         clear hm5
         go_wp2_with fail
         exact⟨⟨5,13,by omega,rfl,rfl,by rw[if_pos (by omega),hm],trivial⟩,by simp[intOf]⟩
        ·rw[decide_eq_false hm] at e
         go_wp2_with fail
         exact⟨⟨5,z,by omega,rfl,rfl,by rw[HZ.out];by_cases h9:m<4;(rw[if_pos h9,if_pos (by omega)]);(rw[if_neg h9,if_neg (by omega)]),trivial⟩,by simp[intOf]⟩
      case inr.inr.inr.inr.inr.inl=>
        have e:((((ByteArray.mk #[123,40,105,119,114,99])[5]'(by decide)).toNat:Int)==(c.toNat:Int))=decide (m=5):=HM.out.2.1 5 (by omega)
        by_cases hm:m=5
        ·rw[decide_eq_true hm] at e
         clear hm5
         go_wp2_with fail
         exact⟨⟨6,14,by omega,rfl,rfl,by rw[if_pos (by omega),hm],trivial⟩,by simp[intOf]⟩
        ·rw[decide_eq_false hm] at e
         go_wp2_with fail
         exact⟨⟨6,z,by omega,rfl,rfl,by rw[HZ.out];by_cases h9:m<5;(rw[if_pos h9,if_pos (by omega)]);(rw[if_neg h9,if_neg (by omega)]),trivial⟩,by simp[intOf]⟩
  case rest=>
    obtain⟨rfl,rfl⟩:=hcut
    go_upto_block 2 with (
      (go_at_call 30
       with_reducible refine Ny.inc UQ ht5 (beginx_q hF K hK18 (hB.mono (by omega))) fun w1 gw1 dw1 kw1 vw1 A0=>?_
       have A1:=Ny.cast A0 HE0.out))
    go_cut [] (fun wx=>Ny g fv F W (insP F L c T0) wx)
    case first=>
      have key:m=0∨m=1∨m=2∨m=3∨m=4∨m=5:=by omega
      rcases key with rfl|rfl|rfl|rfl|rfl|rfl
      ·obtain rfl:K=9:=HK.out
       obtain rfl:c=123:=HM.out.2.2
       clear hm5
       have hgb:=gd_body hL hTB.p
       have hBb:=hTB.gd hgb
       have hqb:q≤(bodyP F L T0).p:=Nat.le_trans hqT hgb.p
       go_wp2_with (first
         | (go_at_call 117
            with_reducible refine Ny.go B1 (want_q hF (hBb.mono (by omega)) 125 (by decide)) fun b2 B2=>?_)
         | (go_at_call 154
            with_reducible refine Ny.go A1 (body_q hF HL hqT (hTB.mono (by omega))) fun b1 B1=>?_)
         | fail)
       go_meet
       exact(Ny.cast B2 (show insP F L 123 T0=wantP F 125 (bodyP F L T0) from rfl)).out
      ·obtain rfl:K=10:=HK.out
       obtain rfl:c=40:=HM.out.2.2
       clear hm5
       have hgb:=gd_body hL hTB.p
       have hBb:=hTB.gd hgb
       have hqb:q≤(bodyP F L T0).p:=Nat.le_trans hqT hgb.p
       go_wp2_with (first
         | (go_at_call 117
            with_reducible refine Ny.go B1 (want_q hF (hBb.mono (by omega)) 41 (by decide)) fun b2 B2=>?_)
         | (go_at_call 154
            with_reducible refine Ny.go A1 (body_q hF HL hqT (hTB.mono (by omega))) fun b1 B1=>?_)
         | fail)
       go_meet
       exact(Ny.cast B2 (show insP F L 40 T0=wantP F 41 (bodyP F L T0) from rfl)).out
      ·obtain rfl:K=11:=HK.out
       obtain rfl:c=105:=HM.out.2.2
       clear hm5
       have hgb:=gd_body hL hTB.p
       have hBb:=hTB.gd hgb
       have hqb:q≤(bodyP F L T0).p:=Nat.le_trans hqT hgb.p
       have hg2:=gd_want (F:=F) (c:=116) (by decide) hBb.p
       have hB2:=hBb.gd hg2
       have hq2:q≤(wantP F 116 (bodyP F L T0)).p:=Nat.le_trans hqb hg2.p
       have hg3:=gd_body hL hB2.p
       have hB3:=hB2.gd hg3
       have hq3:q≤(bodyP F L (wantP F 116 (bodyP F L T0))).p:=Nat.le_trans hq2 hg3.p
       go_wp2_with (first
         | (go_at_call 154
            with_reducible refine Ny.go B2 (body_q hF HL hq2 (hB2.mono (by omega))) fun b3 B3=>?_)
         | (go_at_call 117
            with_reducible refine Ny.go B1 (want_q hF (hBb.mono (by omega)) 116 (by decide)) fun b2 B2=>?_)
         | (go_at_call 154
            with_reducible refine Ny.go A1 (body_q hF HL hqT (hTB.mono (by omega))) fun b1 B1=>?_)
         | fail)
       go_loopw [] (fun wr=>∃u:Ps,q≤u.p∧Bd F 9 u∧(loopP F.length (fun s=>if comes F [101] s=true then (bodyP F L (wantP F 116 (bodyP F L (nextP s))),true) else (s,false))) u=(loopP F.length (fun s=>if comes F [101] s=true then (bodyP F L (wantP F 116 (bodyP F L (nextP s))),true) else (s,false))) (bodyP F L (wantP F 116 (bodyP F L T0)))∧Ny g fv F W u wr) (fun wr=>F.length-pOn g wr)
       case atStart=>exact⟨_,hq3,hB3,rfl,B3.out⟩
       case round=>
         obtain⟨u,hqu,hBu,hlu,hz⟩:=hrel
         have U0:=Lib.hid hz
         have HU:=Lib.hid hlu
         have HP:=Lib.hid hz.m.pOn
         have hup:=hBu.p
         clear hz hlu
         cases hc:comes F [101] u
         ·have HE:=Lib.hid (HU.out.symm.trans (LC.gon (branch_c hL) hBu.p (t:=u) (by show (if _ then _ else _)=_;rw[if_neg (by rw[hc];decide)])))
          cases hd:comes F [108] u
          ·go_wp2_with (first
             | (go_at_call 117
                with_reducible refine Ny.go D2 (want_q hF (hBu.mono (by omega)) 102 (by decide)) fun d3 D3=>?_)
             | (go_at_call 31
                with_reducible refine Ny.go D1 (next_q false hF hup [108] (by decide) hd) fun d2 D2=>?_)
             | (go_at_call 31
                with_reducible refine Ny.go U0 (next_q false hF hup [101] (by decide) hc) fun d1 D1=>?_)
             | fail)
           go_meet
           exact(Ny.cast D3 (show insP F L 105 T0=wantP F 102 u by show branP F L T0=_;unfold branP;rw[HE.out];simp only[hd,if_false,Bool.false_eq_true])).out
          ·have hltl:=comes_lt hd (by decide)
           have hnl:=hBu.next hltl (by omega)
           have hql:q≤(nextP u).p:=Nat.le_trans hqu (Nat.le_succ _)
           have hgl:=gd_body hL hnl.p
           have hBl:=hnl.gd hgl
           go_wp2_with (first
             | (go_at_call 117
                with_reducible refine Ny.go D3 (want_q hF (hBl.mono (by omega)) 102 (by decide)) fun d4 D4=>?_)
             | (go_at_call 154
                with_reducible refine Ny.go D2 (body_q hF HL hql (hnl.mono (by omega))) fun d3 D3=>?_)
             | (go_at_call 31
                with_reducible refine Ny.inc D1 (by omega) (next_q true hF hup [108] (by decide) hd) fun d2 gd2 dd2 kd2 vd2 D2=>?_)
             | (go_at_call 31
                with_reducible refine Ny.go U0 (next_q false hF hup [101] (by decide) hc) fun d1 D1=>?_)
             | fail)
           go_meet
           exact(Ny.cast D4 (show insP F L 105 T0=wantP F 102 (bodyP F L (nextP u)) by show branP F L T0=_;unfold branP;rw[HE.out];simp only[hd,if_true])).out
         ·have hlt4:=comes_lt hc (by decide)
          have hn4:=hBu.next hlt4 (by omega)
          have hq4:q≤(nextP u).p:=Nat.le_trans hqu (Nat.le_succ _)
          have hg4:=gd_body hL hn4.p
          have hB4:=hn4.gd hg4
          have hq5:=Nat.le_trans hq4 hg4.p
          have hg5:=gd_want (F:=F) (c:=116) (by decide) hB4.p
          have hB5:=hB4.gd hg5
          have hq6:=Nat.le_trans hq5 hg5.p
          have hy:=(branch_c hL u hBu.p).yy (t:=bodyP F L (wantP F 116 (bodyP F L (nextP u)))) (by rw[if_pos hc])
          have HE:=Lib.hid ((LC.goy (branch_c hL) hBu.p (t:=bodyP F L (wantP F 116 (bodyP F L (nextP u)))) (by show (if _ then _ else _)=_;rw[if_pos hc])).symm.trans HU.out)
          go_wp2_with (first
            | (go_at_call 154
               with_reducible refine Ny.go D3 (body_q hF HL hq6 (hB5.mono (by omega))) fun d4 D4=>?_)
            | (go_at_call 117
               with_reducible refine Ny.go D2 (want_q hF (hB4.mono (by omega)) 116 (by decide)) fun d3 D3=>?_)
            | (go_at_call 154
               with_reducible refine Ny.go D1 (body_q hF HL hq4 (hn4.mono (by omega))) fun d2 D2=>?_)
            | (go_at_call 31
               with_reducible refine Ny.inc U0 (by omega) (next_q true hF hup [101] (by decide) hc) fun d1 gd1 dd1 kd1 vd1 D1=>?_)
            | fail)
          refine⟨⟨_,Nat.le_trans hqu (Nat.le_of_lt hy.2),hBu.gd hy.1,HE.out,D4.out⟩,?_⟩
          rw[D4.out.m.pOn,HP.out]
          have:=hy.2
          have:=hy.1.N
          omega
      ·obtain rfl:K=12:=HK.out
       obtain rfl:c=119:=HM.out.2.2
       clear hm5
       have hgb:=gd_body hL hTB.p
       have hBb:=hTB.gd hgb
       have hqb:q≤(bodyP F L T0).p:=Nat.le_trans hqT hgb.p
       go_wp2_with (first
         | (go_at_call 155
            with_reducible refine Ny.go B1 (done_q hF hL HL hqb (hBb.mono (by omega))) fun b2 B2=>?_)
         | (go_at_call 154
            with_reducible refine Ny.go A1 (body_q hF HL hqT (hTB.mono (by omega))) fun b1 B1=>?_)
         | fail)
       go_meet
       exact(Ny.cast B2 (show insP F L 119 T0=doP F L (bodyP F L T0) from rfl)).out
      ·obtain rfl:K=13:=HK.out
       obtain rfl:c=114:=HM.out.2.2
       clear hm5
       go_wp2_with (
         (go_at_call 156
          with_reducible refine Ny.go A1 (for_q hF hL HL hqT hTB) fun b1 B1=>?_))
       go_meet
       exact(Ny.cast B1 (show insP F L 114 T0=eachP F L T0 from rfl)).out
      ·obtain rfl:K=14:=HK.out
       obtain rfl:c=99:=HM.out.2.2
       clear hm5
       go_wp2_with (
         (go_at_call 157
          with_reducible refine Ny.go A1 (cases_q hF hL HL hqT hTB) fun b1 B1=>?_))
       go_meet
       exact(Ny.cast B1 (show insP F L 99 T0=casesP F L T0 from rfl)).out
    case rest=>
      have I0:=Lib.hid hcut
      clear hcut
      have hgi:=gd_ins hL c hTB.p
      have hBI:=hTB.gd hgi
      obtain⟨I,hI⟩:∃I,I=insP F L c T0:=⟨_,rfl⟩
      rw[←hI] at I0 hBI
      have HI:=Lib.hid hI
      clear hI hgi
      go_wp2_with fail
      go_loopw [] (fun wr=>∃u:Ps,Bd F 14 u∧(loopP F.length (fun s=>if redirB F s=true then (redirP F s,true) else (s,false))) u=(loopP F.length (fun s=>if redirB F s=true then (redirP F s,true) else (s,false))) I∧Ny g fv F W u wr) (fun wr=>F.length-pOn g wr)
      case atStart=>exact⟨_,hBI,rfl,I0.out⟩
      case round=>
        obtain⟨u,hBu,hlu,hz⟩:=hrel
        have U0:=Lib.hid hz
        have HU:=Lib.hid hlu
        have HP:=Lib.hid hz.m.pOn
        have hup:=hBu.p
        clear hz hlu
        cases hb:redirB F u
        ·have HE:=Lib.hid (HU.out.symm.trans (LC.gon redirs_c hBu.p (t:=u) (by show (if _ then _ else _)=_;rw[if_neg (by rw[hb];decide)])))
         have HF:=Lib.hid (show f (inN K {s with deep:=s.deep+1})=u by rw[←Ht0.out];rw[HF0.out];show redirsP F (insP F L c (nextP t0))=u;rw[←HT0.out];show redirsP F (insP F L c T0)=u;rw[←HI.out];exact HE.out)
         go_wp2_with (first
           | (go_at_call 35
              with_reducible refine Ny.go (Ny.cast E1 HF.out) (endx_q hF K f hKn (hB.mono (by omega)) HGE.out (by omega)) fun e2 E2=>?_)
           | (go_at_call 74
              with_reducible refine Ny.go U0 (redirs_q hF false hup hb) fun e1 E1=>?_)
           | fail)
         first|go_end0|refine bodyPost_ret (results_none rfl _ _ _) rfl ?_
         exact⟨rfl,by rw[HX.out];exact E2.out⟩
        ·have hy:=(redirs_c (F:=F) u hBu.p).yy (t:=redirP F u) (by rw[if_pos hb])
         have HE:=Lib.hid ((LC.goy redirs_c hBu.p (t:=redirP F u) (by show (if _ then _ else _)=_;rw[if_pos hb])).symm.trans HU.out)
         go_wp2_with (first
           | (go_at_call 118
              with_reducible refine Ny.go E1 (redirect_q hF (hBu.mono (by omega)) hb) fun e2 E2=>?_)
           | (go_at_call 74
              with_reducible refine Ny.go U0 (redirs_q hF true hup hb) fun e1 E1=>?_)
           | fail)
         refine⟨⟨_,hBu.gd hy.1,HE.out,E2.out⟩,?_⟩
         rw[E2.out.m.pOn,HP.out]
         have:=hy.2
         have:=hy.1.N
         omega
end
end Go.Proofs.YtokmnkmpdnlnaaaGreatDoor
