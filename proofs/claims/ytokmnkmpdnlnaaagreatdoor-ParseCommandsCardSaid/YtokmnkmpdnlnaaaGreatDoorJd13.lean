/- The reference's parser: commands. PRINTED by gen_jd13.py. -/
import Derived.Test.YtokmnkmpdnlnaaaGreatDoorJc13
import Derived.Test.YtokmnkmpdnlnaaaGreatDoorRj13
import Derived.Deep.DeepCutAuto
import Derived.Deep.CutBlock
namespace Go.Proofs.YtokmnkmpdnlnaaaGreatDoor
open Go.RowKit
set_option linter.unusedVariables false
set_option linter.unusedSimpArgs false
set_option maxRecDepth 100000
theorem sg_out {F:List Lf} {i:Nat} (h:F.length≤i):sg F i=0:=by unfold sg;rw[List.getElem?_eq_none h]
theorem simpP_redir {F:List Lf} {u:Ps} (hs:u.p≤F.length) (hb:redirB F u=true):simpP F u=simpP F (redirP F u):=by
  unfold simpP
  rw[LC.goy (simp0_c (F:=F)) hs (t:=redirP F u) (by rw[if_pos hb])]
theorem simpP_asg {F:List Lf} {u:Ps} (hs:u.p≤F.length) (hb:redirB F u=false) (hw:isW F u.p=true) (ha:asgT (tx F u.p)=true):simpP F u=simpP F (leafP 6 u):=by
  unfold simpP
  rw[LC.goy (simp0_c (F:=F)) hs (t:=leafP 6 u) (by rw[if_neg (by rw[hb];decide),if_pos (by rw[hw,ha];rfl)])]
theorem simpP_word {F:List Lf} {u:Ps} (hs:u.p≤F.length) (hb:redirB F u=false) (hw:isW F u.p=true) (ha:asgT (tx F u.p)=false):simpP F u=simp1P F (leafP 7 u):=by
  unfold simpP
  rw[LC.gon (simp0_c (F:=F)) hs (t:=u) (by rw[if_neg (by rw[hb];decide),if_neg (by rw[hw,ha];decide)])]
  simp only[hw,if_true]
theorem simpP_end {F:List Lf} {u:Ps} (hs:u.p≤F.length) (hb:redirB F u=false) (hw:isW F u.p=false):simpP F u=u:=by
  unfold simpP
  rw[LC.gon (simp0_c (F:=F)) hs (t:=u) (by rw[if_neg (by rw[hb];decide),if_neg (by rw[hw,Bool.false_and];decide)])]
  simp only[hw,if_false,Bool.false_eq_true]
theorem simp1P_redir {F:List Lf} {u:Ps} (hs:u.p≤F.length) (hb:redirB F u=true):simp1P F u=simp1P F (redirP F u):=LC.goy (simp1_c (F:=F)) hs (by rw[if_pos hb])
theorem simp1P_word {F:List Lf} {u:Ps} (hs:u.p≤F.length) (hb:redirB F u=false) (hw:isW F u.p=true):simp1P F u=simp1P F (leafP 7 u):=LC.goy (simp1_c (F:=F)) hs (by rw[if_neg (by rw[hb];decide),if_pos hw])
theorem simp1P_end {F:List Lf} {u:Ps} (hs:u.p≤F.length) (hb:redirB F u=false) (hw:isW F u.p=false):simp1P F u=u:=LC.gon (simp1_c (F:=F)) hs (by rw[if_neg (by rw[hb];decide),if_neg (by rw[hw];decide)])
def smpX (F:List Lf) (n:Nat) (u:Ps):Ps:=if n=0 then simpP F u else simp1P F u
theorem fun_not {F:List Lf} {s:Ps} (h:cmdB F s=false):compB F s=false∧funB F s=false:=by
  unfold cmdB at h
  rw[Bool.or_eq_false_iff,Bool.or_eq_false_iff] at h
  refine⟨h.2.2,?_⟩
  unfold funB
  rw[h.1,Bool.false_and]
theorem rasg_q (l:List UInt8) (hl:l.length≤100000) (W:World):∃k:Int,decide (0<k)=asgT l∧∀n,Calls Tryz.prog 55 #[.string ⟨l.toArray⟩] (W.drewN n) fun e w'=>e=.returned (.int .i64 k)∧∃m,w'=W.drewN m:=by
  obtain⟨k,h1,h2⟩:=rassign_k l hl
  exact⟨k,h1,fun n=>(h2 (W.drewN n)).mono fun e w' ⟨a,b⟩=>⟨a,n,b⟩⟩
theorem cmdB_lt {F:List Lf} {s:Ps} (h:cmdB F s=true):s.p<F.length:=pipe_lt (by unfold pipeB;rw[h,Bool.or_true])
section
variable {g:Nat} {fv:Value} {F:List Lf} {L:Ps→Ps} {q:Nat} {s:Ps} {W:World} (hF:FB F) (hL:GL F L) (HL:ListR g fv F L q)
include hF hL HL
set_option maxHeartbeats 8000000 in
theorem command_q (hq:q≤s.p+1) (hB:Bd F 24 s) (h:Nk g fv F s W) :
    Calls Tryz.prog 98 #[.pointer (some ⟨g,0,none⟩)] W fun e w'=>e=.returned (.tuple #[])∧Ny g fv F W (comP F L s) w':=by
  have hn:=hF.n
  have hp:=hB.p
  have H0:=Lib.hid (Ny.start h)
  clear h
  cases hcm:cmdB F s
  ·obtain⟨hcp,hfn⟩:=fun_not hcm
   have HX:=Lib.hid (show comP F L s=missP s by unfold comP;rw[if_neg (by rw[hcp];decide),if_neg (by rw[hfn];decide),if_neg (by rw[hcm];decide)])
   go_enter Tryz.func98,Tryz.ntmps98
   go_wp2_with (first
     | (go_at_call 71
        with_reducible refine Ny.go H1 (none_q hF (hB.mono (by omega))) fun w2 H2=>?_)
     | (go_at_call 53
        with_reducible refine Ny.go H0 (cmd_q hF false hp hcm) fun w1 H1=>?_)
     | fail)
   first|go_end0|refine bodyPost_ret (results_none rfl _ _ _) rfl ?_
   exact⟨rfl,by rw[HX.out];exact H2.out⟩
  ·cases hcp:compB F s
   ·have hlt:=cmdB_lt hcm
    obtain⟨x,hx⟩:∃x,F[s.p]? = some x:=⟨_,List.getElem?_eq_getElem hlt⟩
    have hxl:=hF.t x (List.mem_of_getElem? hx)
    have hfb:funB F s=(comes F [120] s&&(sg F (s.p+1)==40&&(decide (s.deep<200)&&nameT x.tx))):=by unfold funB;rw[comes_1,tx_at hx]
    obtain⟨b,hbe⟩:∃b,b=funB F s:=⟨_,rfl⟩
    have HB:=Lib.hid hbe
    clear hbe
    go_enter Tryz.func98,Tryz.ntmps98
    go_upto_region 4 with (first
      | (go_at_call 75
         with_reducible refine Ny.go H1 (comp_q hF false hp hcp) fun w2 H2=>?_)
      | (go_at_call 53
         with_reducible refine Ny.go H0 (cmd_q hF true hp hcm) fun w1 H1=>?_)
      | fail)
    go_cut [62] (fun v wx=>v=.bool b∧Ny g fv F W s wx)
    case first=>
      have q1:=next_dr hF hp [120] (by decide) H2.out.m
      have q2:=nameq_r x.tx _ rfl (by omega) w2
      obtain⟨g1,o1,c,y0,y3,y1,y2⟩:=H2.out.m.wc hx
      obtain⟨⟨_,c1,_,_,c5⟩,_⟩:=H2.out.m.cells
      have hT:s.p+1<F.length→(sgs F)[s.p+1]? = some (sg F (s.p+1)):=fun h=>sgs_at h
      have hsl:=sgs_len F
      obtain⟨Z,hZ⟩:∃Z,Z=sgs F:=⟨_,rfl⟩
      rw[←hZ] at c1 hsl hT
      obtain⟨i,hi⟩:∃i,i=s.p+1:=⟨_,rfl⟩
      have v1:IntKind.i64.wrap ((s.p:Int)+1)=(i:Int):=by rw[IntWalk.i64_in _ (by omega)];omega
      rw[←hi] at hT hfb
      obtain⟨dz,hdz⟩:∃z:Int,z=(s.deep:Int):=⟨_,rfl⟩
      rw[←hdz] at c5
      have u0:(0:Int)≤(i:Int):=by omega
      have us:(0:Int)≤(s.p:Int):=by omega
      have u1:(s.p:Int)<(F.length:Int):=by omega
      obtain⟨nb,hnb⟩:∃nb,nb=nameT x.tx:=⟨_,rfl⟩
      rw[←hnb] at q2 hfb
      have key:comes F [120] s=false∨(comes F [120] s=true∧¬i<F.length)∨(comes F [120] s=true∧i<F.length∧(sg F i==40)=false)∨(comes F [120] s=true∧i<F.length∧(sg F i==40)=true∧¬s.deep<200)∨(comes F [120] s=true∧i<F.length∧(sg F i==40)=true∧s.deep<200):=by
        by_cases h1:i<F.length<;>by_cases h2:s.deep<200<;>cases comes F [120] s<;>cases (sg F i==40)<;>simp[h1,h2]
      have HFB:=Lib.hid hfb
      clear hfb hnb hZ hx
      rcases key with h1|⟨h1,h2⟩|⟨h1,h2,h3⟩|⟨h1,h2,h3,h4⟩|⟨h1,h2,h3,h4⟩
      case' inl=>
        have HV:=Lib.hid (show b=false by rw[HB.out,HFB.out,h1];rfl)
        clear hT
      case' inr.inl=>
        have HV:=Lib.hid (show b=false by rw[HB.out,HFB.out,sg_out (by omega),h1];rfl)
        have t2:decide ((i:Int)<(Z.length:Int))=false:=decide_eq_false (by omega)
        have t3:decide (i<Z.length)=false:=decide_eq_false (by omega)
        clear hT
      case' inr.inr.inl=>
        have HV:=Lib.hid (show b=false by rw[HB.out,HFB.out,h1,h3];rfl)
        obtain⟨d,hdd⟩:∃d,d=sg F i:=⟨_,rfl⟩
        have k1:=hT h2
        rw[←hdd] at k1 h3
        obtain⟨g4,g5⟩:=List.getElem?_eq_some_iff.1 k1
        have g6:(ByteArray.mk Z.toArray)[i]'(show i<Z.length from g4)=d:=g5
        have k2:((d.toNat:Int)==40)=(d==40):=u8_beq d 40
        rw[h3] at k2
        have t2:decide ((i:Int)<(Z.length:Int))=true:=decide_eq_true (by omega)
        have t3:decide (i<Z.length)=true:=decide_eq_true g4
        clear hdd k1 g5 h3 hT
      case' inr.inr.inr.inl=>
        have HV:=Lib.hid (show b=false by rw[HB.out,HFB.out,h1,h3,decide_eq_false h4];rfl)
        have t6:decide (dz<200)=false:=decide_eq_false (by omega)
        obtain⟨d,hdd⟩:∃d,d=sg F i:=⟨_,rfl⟩
        have k1:=hT h2
        rw[←hdd] at k1 h3
        obtain⟨g4,g5⟩:=List.getElem?_eq_some_iff.1 k1
        have g6:(ByteArray.mk Z.toArray)[i]'(show i<Z.length from g4)=d:=g5
        have k2:((d.toNat:Int)==40)=(d==40):=u8_beq d 40
        rw[h3] at k2
        have t2:decide ((i:Int)<(Z.length:Int))=true:=decide_eq_true (by omega)
        have t3:decide (i<Z.length)=true:=decide_eq_true g4
        clear hdd k1 g5 h3 hT
      case' inr.inr.inr.inr=>
        have HV:=Lib.hid (show b=nb by rw[HB.out,HFB.out,h1,h3,decide_eq_true h4];rfl)
        have t6:decide (dz<200)=true:=decide_eq_true (by omega)
        obtain⟨d,hdd⟩:∃d,d=sg F i:=⟨_,rfl⟩
        have k1:=hT h2
        rw[←hdd] at k1 h3
        obtain⟨g4,g5⟩:=List.getElem?_eq_some_iff.1 k1
        have g6:(ByteArray.mk Z.toArray)[i]'(show i<Z.length from g4)=d:=g5
        have k2:((d.toNat:Int)==40)=(d==40):=u8_beq d 40
        rw[h3] at k2
        have t2:decide ((i:Int)<(Z.length:Int))=true:=decide_eq_true (by omega)
        have t3:decide (i<Z.length)=true:=decide_eq_true g4
        clear hdd k1 g5 h3 hT
      all_goals (
        rw[h1] at q1
        have HQ:=Lib.hid (And.intro q1 q2)
        clear q1 q2 h1 hdz hi
        go_wp2_with fail
        go_quiet (first
          | (go_at_call 31
             with_reducible exact HQ.out.1 _)
          | (go_at_call 60
             with_reducible exact HQ.out.2 _)
          | fail)
        go_wp2_with fail
        go_meet
        exact⟨by rw[HV.out],H2.out.drew nq⟩)
    case rest=>
      obtain⟨rfl,hz⟩:=hcut
      have J0:=Lib.hid hz
      clear hz hfb hx
      cases b
      ·have hfun:funB F s=false:=HB.out.symm
       have HX:=Lib.hid (show comP F L s=nodeP 5 (simpP F) s by unfold comP;rw[if_neg (by rw[hcp];decide),if_neg (by rw[hfun];decide),if_pos hcm])
       have hi:=hB.inn 5
       have HGE:=Lib.hid (gd_simp (F:=F) hi.p)
       obtain⟨X,hX⟩:∃X,X=simpP F (inN 5 s):=⟨_,rfl⟩
       have HXX:=Lib.hid hX
       clear hX hfun
       go_wp2_with (
         (go_at_call 30
          with_reducible refine Ny.go J0 (begin_q hF 5 (by decide) (hB.mono (by omega))) fun a1 A1=>?_))
       go_loopw [4] (fun v wr=>∃(u:Ps) (n:Nat),v=.int .i64 (n:Int)∧n≤u.p∧Bd F 25 u∧smpX F n u=X∧Ny g fv F W u wr) (fun v wr=>F.length-pOn g wr)
       case atStart=>exact⟨_,0,rfl,Nat.zero_le _,hi,by rw[HXX.out];rfl,A1.out⟩
       case round=>
         obtain⟨u,n,rfl,hnu,hBu,hU,hz⟩:=hrel
         have U0:=Lib.hid hz
         have HU:=Lib.hid hU
         have HP:=Lib.hid hz.m.pOn
         have hup:=hBu.p
         have uu:(0:Int)≤(u.p:Int):=by omega
         clear hU hz
         cases hb:redirB F u
         case true=>
           have hy:=(redirs_c (F:=F) u hBu.p).yy (t:=redirP F u) (by rw[if_pos hb])
           have HE:=Lib.hid (show smpX F n (redirP F u)=X by rw[←HU.out];unfold smpX;rw[simpP_redir hup hb,simp1P_redir hup hb])
           go_wp2_with (first
             | (go_at_call 118
                with_reducible refine Ny.go E1 (redirect_q hF (hBu.mono (by omega)) hb) fun e2 E2=>?_)
             | (go_at_call 74
                with_reducible refine Ny.go U0 (redirs_q hF true hup hb) fun e1 E1=>?_)
             | fail)
           refine⟨⟨_,n,rfl,Nat.le_trans hnu (Nat.le_of_lt hy.2),hBu.gd hy.1,HE.out,E2.out⟩,?_⟩
           rw[E2.out.m.pOn,HP.out]
           have:=hy.2
           have:=hy.1.N
           omega
         case false=>
           go_upto_region 18 with (
             (go_at_call 74
              with_reducible refine Ny.go U0 (redirs_q hF false hup hb) fun r1 R1=>?_))
           by_cases hlu:u.p<F.length
           case' pos=>
             obtain⟨x2,hx2⟩:∃x,F[u.p]? = some x:=⟨_,List.getElem?_eq_getElem hlu⟩
             have hw:=isW_at hx2
             have htx:=tx_at hx2
             have hxl2:=hF.t x2 (List.mem_of_getElem? hx2)
             obtain⟨g2,o2,c2,z0,z3,z1,z2⟩:=R1.out.m.wc hx2
             have ul:(u.p:Int)<(F.length:Int):=by omega
             have d2:decide ((u.p:Int)<(F.length:Int))=true:=decide_eq_true ul
             cases hkd:(x2.kd==6)
             case' true=>
               rw[hkd] at hw
               have hlf6:=gd_leaf (F:=F) (k:=6) hlu
               have hlf7:=gd_leaf (F:=F) (k:=7) hlu
               go_wp2_with fail
               go_quiet (fail)
               have R2:=Lib.hid (R1.out.drew nq)
               clear z0 z1 z2 z3 d2
               generalize r1.drewN nq=r2 at R2 ⊢
               obtain⟨g2,o2,c2,z0,z3,z1,z2⟩:=R2.out.m.wc hx2
               obtain⟨k,hk1,hk2⟩:=rasg_q x2.tx (by omega) r2
               have HK:=Lib.hid hk2
               clear hk2 hx2
               by_cases hn0:n=0
               ·have t0:((n:Int)==0)=true:=by rw[hn0];rfl
                have HN0:=Lib.hid hn0
                have HT2:=Lib.hid (show IntKind.i64.wrap ((n:Int)+1)=(n:Int)+1 from IntWalk.i64_in _ (by omega))
                have hnp:n+1≤(leafP 7 u).p:=Nat.succ_le_succ hnu
                clear hn0
                cases ha:asgT x2.tx
                ·have HT1:=Lib.hid (show decide (0<k)=false by rw[hk1,ha])
                 have HE:=Lib.hid (show smpX F (n+1) (leafP 7 u)=X by rw[←HU.out,HN0.out];show simp1P F (leafP 7 u)=simpP F u;rw[simpP_word hup hb hw (by rw[htx,ha])])
                 clear hk1 ha
                 go_wp2_with fail
                 have t1:_:=HT1.out
                 go_quiet (
                   (go_at_call 55
                    with_reducible exact HK.out _))
                 have R3:=Lib.hid (R2.out.drew nq)
                 have t2:_:=HT2.out
                 go_wp2_with (
                   (go_at_call 34
                    with_reducible refine Ny.go R3 (one_q hF (k:=7) (by decide) (hBu.mono (by omega)) hlu) fun e2 E2=>?_))
                 refine⟨⟨_,n+1,rfl,hnp,hBu.gd hlf7.2.2,HE.out,E2.out⟩,?_⟩
                 rw[E2.out.m.pOn,HP.out]
                 show F.length-(u.p+1)<F.length-u.p
                 omega
                ·have HT1:=Lib.hid (show decide (0<k)=true by rw[hk1,ha])
                 have HE:=Lib.hid (show smpX F n (leafP 6 u)=X by rw[←HU.out,HN0.out];show simpP F (leafP 6 u)=simpP F u;rw[simpP_asg hup hb hw (by rw[htx,ha])])
                 clear hk1 ha
                 go_wp2_with fail
                 have t1:_:=HT1.out
                 go_quiet (
                   (go_at_call 55
                    with_reducible exact HK.out _))
                 have R3:=Lib.hid (R2.out.drew nq)
                 have t2:_:=HT2.out
                 go_wp2_with (
                   (go_at_call 34
                    with_reducible refine Ny.go R3 (one_q hF (k:=6) (by decide) (hBu.mono (by omega)) hlu) fun e2 E2=>?_))
                 refine⟨⟨_,n,rfl,Nat.le_succ_of_le hnu,hBu.gd hlf6.2.2,HE.out,E2.out⟩,?_⟩
                 rw[E2.out.m.pOn,HP.out]
                 show F.length-(u.p+1)<F.length-u.p
                 omega
               ·have t0:((n:Int)==0)=false:=beq_false_of_ne (by omega)
                have t1:IntKind.i64.wrap ((n:Int)+1)=(n:Int)+1:=IntWalk.i64_in _ (by omega)
                have HE:=Lib.hid (show smpX F (n+1) (leafP 7 u)=X by rw[←HU.out];unfold smpX;rw[if_neg (by omega),if_neg hn0,simp1P_word hup hb hw])
                have hnp:n+1≤(leafP 7 u).p:=Nat.succ_le_succ hnu
                clear hk1
                go_wp2_with fail
                go_quiet (fail)
                have R3:=Lib.hid (R2.out.drew nq)
                go_wp2_with (
                  (go_at_call 34
                   with_reducible refine Ny.go R3 (one_q hF (k:=7) (by decide) (hBu.mono (by omega)) hlu) fun e2 E2=>?_))
                refine⟨⟨_,n+1,rfl,hnp,hBu.gd hlf7.2.2,HE.out,E2.out⟩,?_⟩
                rw[E2.out.m.pOn,HP.out]
                show F.length-(u.p+1)<F.length-u.p
                omega
             case' false=>
               rw[hkd] at hw
               clear hx2
           case' neg=>
             have hw:=isW_out hlu
             obtain⟨A2,c2,z0,z3⟩:=R1.out.m.fc
             have d2:decide ((u.p:Int)<(F.length:Int))=false:=decide_eq_false (by omega)
           all_goals (
             have HE:=Lib.hid (show simpP F (inN 5 s)=u by rw[←HXX.out,←HU.out];unfold smpX;rw[simpP_end hup hb hw,simp1P_end hup hb hw];split<;>rfl)
             clear hw
             go_wp2_with fail
             go_quiet (fail)
             have R2:=Lib.hid (R1.out.drew nq)
             go_wp2_with (
               (go_at_call 35
                with_reducible refine Ny.go (Ny.cast R2 HE.out) (end_q hF 5 (simpP F) (by decide) (hB.mono (by omega)) HGE.out (by omega)) fun e2 E2=>?_))
             first|go_end0|refine bodyPost_ret (results_none rfl _ _ _) rfl ?_
             exact⟨rfl,by rw[HX.out];exact E2.out⟩)
      ·have hfun:funB F s=true:=HB.out.symm
       have hX:comP F L s=nestP 16 (defP F L) s:=by unfold comP;rw[if_neg (by rw[hcp];decide),if_pos hfun]
       have HX:=Lib.hid hX
       have hf2:=hfun
       unfold funB at hf2
       simp only[Bool.and_eq_true,beq_iff_eq,decide_eq_true_eq] at hf2
       obtain⟨e120,e40,hd2,_⟩:=hf2
       have hlt2:s.p+1<F.length:=sg_lt (by rw[e40];decide)
       have hB0:Bd F 25 (inN 16 {s with deep:=s.deep+1}):=⟨hB.p,by rw[inN_l];have:=hB.l;show s.l.length+1≤46*s.p+25;omega,by show s.deep+1≤200;omega⟩
       obtain⟨t0,ht0⟩:∃t0,t0=inN 16 {s with deep:=s.deep+1}:=⟨_,rfl⟩
       have HT0:=Lib.hid ht0
       rw[←ht0] at hB0
       have hp0:t0.p<F.length∧s.p≤t0.p∧t0.p+1<F.length∧(leafP 7 t0).p≤100000:=by rw[ht0];exact⟨hlt,Nat.le_refl _,hlt2,by show s.p+1≤_;omega⟩
       obtain⟨hlt0,hsp0,_,hl5⟩:=hp0
       have ew:wordP F t0=leafP 7 t0:=by unfold wordP;rw[if_pos (fun_w (by rw[ht0];exact e120))]
       have et:takeP F [40] (wordP F t0)=nextP (leafP 7 t0):=by rw[ew];exact take_y (by rw[comes_1,ht0];show (sg F (s.p+1)==40)=true;rw[e40];rfl)
       have ET:=Lib.hid et
       have hg1:=gd_word (F:=F) hB0.p
       have hB1:=hB0.gd hg1
       have hg2:=gd_take (F:=F) (cs:=[40]) (by decide) hB1.p
       have hB2:=hB1.gd hg2
       have hg3:=gd_want (F:=F) (c:=41) (by decide) hB2.p
       have hB3:=hB2.gd hg3
       have hg4:=gd_lines (F:=F) hB3.p
       have hB4:=hB3.gd hg4
       have hq4:q≤(linesP F (wantP F 41 (takeP F [40] (wordP F t0)))).p+1:=Nat.le_trans hq (Nat.succ_le_succ (Nat.le_trans hsp0 (Nat.le_trans hg1.p (Nat.le_trans hg2.p (Nat.le_trans hg3.p hg4.p)))))
       have HGE:=Lib.hid (show Gd F.length 2 (inN 16 {s with deep:=s.deep+1}) (defP F L (inN 16 {s with deep:=s.deep+1})) from (gd_def hL (s:=inN 16 {s with deep:=s.deep+1}) e120).1)
       clear e120 e40 hX hfun ht0 ew et hd2
       cases hk:compB F (linesP F (wantP F 41 (takeP F [40] (wordP F t0))))
       case' false=>
         have HE:=Lib.hid (show defP F L (inN 16 {s with deep:=s.deep+1})=missP (linesP F (wantP F 41 (takeP F [40] (wordP F t0)))) by rw[←HT0.out];unfold defP;simp only[hk,if_false,Bool.false_eq_true])
       case' true=>
         have HE:=Lib.hid (show defP F L (inN 16 {s with deep:=s.deep+1})=compP F L (linesP F (wantP F 41 (takeP F [40] (wordP F t0)))) by rw[←HT0.out];unfold defP;simp only[hk,if_true])
       all_goals (
         go_wp2_with (first
           | (go_at_call 35
              with_reducible refine Ny.go (Ny.cast A6 HE.out) (endx_q hF 16 (defP F L) (by decide) (hB.mono (by omega)) HGE.out (by omega)) fun a8 A8=>?_)
           | (go_at_call 71
              with_reducible refine Ny.go A5 (none_q hF (hB4.mono (by omega))) fun a6 A6=>?_)
           | (go_at_call 116
              with_reducible refine Ny.go A5 (compound_q hF hL HL hq4 (hB4.mono (by omega)) hk) fun a6 A6=>?_)
           | (go_at_call 75
              with_reducible refine Ny.go A4 (comp_q hF _ hB4.p hk) fun a5 A5=>?_)
           | (go_at_call 54
              with_reducible refine Ny.go A3 (lines_q hF hB3.p) fun a4 A4=>?_)
           | (go_at_call 117
              with_reducible refine Ny.go A2' (want_q hF (hB2.mono (by omega)) 41 (by decide)) fun a3 A3=>?_)
           | (go_at_call 34
              with_reducible refine Ny.inc A1' (hl5) (one_q hF (k:=7) (by decide) (hB0.mono (by omega)) hlt0) fun a2 ga2 da2 ka2 va2 A2=>?_
              have A2':=Ny.cast A2 ET.out)
           | (go_at_call 30
              with_reducible refine Ny.go J0 (beginx_q hF 16 (by decide) (hB.mono (by omega))) fun a1 A1=>?_
              have A1':=Ny.cast A1 HT0.out)
           | fail)
         first|go_end0|refine bodyPost_ret (results_none rfl _ _ _) rfl ?_
         exact⟨rfl,by rw[HX.out];exact A8.out⟩)
   ·have HX:=Lib.hid (show comP F L s=compP F L s by unfold comP;rw[if_pos hcp])
    go_enter Tryz.func98,Tryz.ntmps98
    go_wp2_with (first
      | (go_at_call 116
         with_reducible refine Ny.go H2 (compound_q hF hL HL hq (hB.mono (by omega)) hcp) fun w3 H3=>?_)
      | (go_at_call 75
         with_reducible refine Ny.go H1 (comp_q hF true hp hcp) fun w2 H2=>?_)
      | (go_at_call 53
         with_reducible refine Ny.go H0 (cmd_q hF true hp hcm) fun w1 H1=>?_)
      | fail)
    first|go_end0|refine bodyPost_ret (results_none rfl _ _ _) rfl ?_
    exact⟨rfl,by rw[HX.out];exact H3.out⟩
end
end Go.Proofs.YtokmnkmpdnlnaaaGreatDoor
