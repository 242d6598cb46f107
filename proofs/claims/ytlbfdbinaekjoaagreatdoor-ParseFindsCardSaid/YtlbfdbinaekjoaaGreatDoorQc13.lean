/- The parser: lists and programs. -/
import Derived.Test.YtlbfdbinaekjoaaGreatDoorPz13
import Derived.Test.YtlbfdbinaekjoaaGreatDoorEc9
import Derived.Test.YtlbfdbinaekjoaaGreatDoorLa9
import Derived.Test.YtlbfdbinaekjoaaGreatDoorLf9
namespace Go.Proofs.YtlbfdbinaekjoaaGreatDoor
open Go.RowKit
set_option linter.unusedVariables false
set_option linter.unusedSimpArgs false
set_option maxRecDepth 100000
theorem nodeA_m {g:Nat} {fv:Value} {F:List Lf} {L:Ps→Ps} {q:Nat} {s:Ps} {W:World} (hF:FB F) (hL:GL F L) (HL:ListC g fv F L q) (h:Mk g fv F s W) (hq:q≤s.p+1) (hB:Bd F 20 s) :
    Calls Tryz.prog 14 #[.pointer (some ⟨g,0,none⟩),.int .i64 3,.func (.func 51) #[.pointer (some ⟨g,0,none⟩)] #[]] W fun e w'=>e=.returned (.tuple #[])∧Mz g fv F W (nodeP 3 (andP F L) s) w':=by
  have hi:=hB.inn 3
  have hg:=gd_and hL hi.p
  have hn:=hF.n
  have h1:=hg.l
  have h2:=hg.N
  rw[inN_len] at h1
  exact node_v (t:=andP F L (inN 3 s)) 3 _ h (hB.l5 hF (by omega)) (by omega) (enters_of Tryz.func51 (by kernel_rfl) rfl) (fun W1 z1=>andor_m hF hL HL z1.m hq (hi.mono (by omega))) (by omega) (by omega)
set_option maxHeartbeats 4000000 in
theorem list1_m {g:Nat} {fv:Value} {F:List Lf} {L:Ps→Ps} {q:Nat} {s:Ps} {W:World} (hF:FB F) (hL:GL F L) (HL:ListC g fv F L q) (h:Mk g fv F s W) (hq:q≤s.p+1) (hB:Bd F 20 s) :
    Calls Tryz.prog 32 #[.pointer (some ⟨g,0,none⟩)] W fun e w'=>e=.returned (.tuple #[])∧Mz g fv F W (lstP F L s) w':=by
  obtain⟨T,hT⟩:∃T,T=lstP F L s:=⟨_,rfl⟩
  rw[←hT]
  have HT:=Lib.hid hT
  clear hT
  have H0:=Lib.hid (Mz.start h)
  clear h
  go_enter Tryz.func32,Tryz.ntmps32
  go_wp2_with fail
  go_step3
  go_wp2_with fail
  go_step3
  go_wp2_with fail
  go_loopw [] (fun wr=>∃u:Ps,q≤u.p+1∧Bd F 20 u∧(loopP F.length (fun s=>sepP F (nodeP 3 (andP F L) s))) u=(loopP F.length (fun s=>sepP F (nodeP 3 (andP F L) s))) s∧Mz g fv F W u wr) (fun wr=>F.length-pOf g wr)
  case atStart=>exact⟨_,hq,hB,rfl,H0.out⟩
  case round=>
    obtain⟨u,hqu,hBu,hlu,hz⟩:=hrel
    have U0:=Lib.hid hz
    have HU:=Lib.hid hlu
    have hup:=hz.m.pOf
    have HP:=Lib.hid hup
    clear hz hlu hup
    have hgv:=Gd.node0 (k:=3) (s:=u) (f:=andP F L) (A:=2) (N:=F.length) fun t ht _=>gd_and hL (by rw[ht];exact hBu.p)
    have hBv:=hBu.gd hgv
    cases ha:comes F [59,38] (nodeP 3 (andP F L) u)
    ·cases hk:comes F [110] (nodeP 3 (andP F L) u)
     ·have e9:=Lib.hid (lines_no hBv.p hk)
      have HE:=Lib.hid (HU.out.symm.trans (LC.stepn (lst_c hL) hBu.p (t:=nodeP 3 (andP F L) u) (by show sepP F (nodeP 3 (andP F L) u)=_;unfold sepP;rw[if_neg (by rw[ha];decide),if_neg (by rw[hk];decide)])))
      have NC1:=Lib.hid (fun W1 (h1:Mk g fv F (u) W1)=>nodeA_m hF hL HL h1 hqu hBu)
      have NC2:=Lib.hid (fun W1 (h1:Mk g fv F (nodeP 3 (andP F L) u) W1)=>take_mn hF h1 hBv.p [59,38] (by decide) ha)
      have NC3:=Lib.hid (fun W1 (h1:Mk g fv F (nodeP 3 (andP F L) u) W1)=>lines_mn hF h1 hBv.p hk)
      go_wp2_with (first
        | (go_at_call 14
           with_reducible refine(NC1.out _ U0.out.m).mono ?_
           rintro e nw1 ⟨rfl,hz⟩
           have N1:=Lib.hid (U0.out.then hz)
           clear hz)
        | (go_at_call 30
           with_reducible refine(NC2.out _ N1.out.m).mono ?_
           rintro e nw2 ⟨rfl,hz⟩
           have N2:=Lib.hid (N1.out.then hz)
           clear hz)
        | (go_at_call 52
           with_reducible refine(NC3.out _ N2.out.m).mono ?_
           rintro e nw3 ⟨rfl,hz⟩
           have N3:=Lib.hid (N2.out.then hz)
           clear hz)
        | fail)
      try rw[Exit.noGoto_normal]
      first|go_end0|refine bodyPost_ret (results_none rfl _ _ _) rfl ?_
      refine⟨rfl,?_⟩
      rw[HT.out]
      unfold lstP
      rw[HE.out]
      rw[←e9.out]
      exact N3.out
     ·have hg3:=gd_lines (F:=F) hBv.p
      have hB3:=hBv.gd hg3
      cases hp:pipeB F (linesP F (nodeP 3 (andP F L) u))
      ·have HE:=Lib.hid (HU.out.symm.trans (LC.stepn (lst_c hL) hBu.p (t:=linesP F (nodeP 3 (andP F L) u)) (by show sepP F (nodeP 3 (andP F L) u)=_;unfold sepP;rw[if_neg (by rw[ha];decide),if_pos hk,hp])))
       have NC1:=Lib.hid (fun W1 (h1:Mk g fv F (u) W1)=>nodeA_m hF hL HL h1 hqu hBu)
       have NC2:=Lib.hid (fun W1 (h1:Mk g fv F (nodeP 3 (andP F L) u) W1)=>take_mn hF h1 hBv.p [59,38] (by decide) ha)
       have NC3:=Lib.hid (fun W1 (h1:Mk g fv F (nodeP 3 (andP F L) u) W1)=>lines_my hF h1 hBv.p hk)
       have NC4:=Lib.hid (fun W1 (h1:Mk g fv F (linesP F (nodeP 3 (andP F L) u)) W1)=>pipes_mn hF h1 hB3.p hp)
       go_wp2_with (first
         | (go_at_call 14
            with_reducible refine(NC1.out _ U0.out.m).mono ?_
            rintro e nw1 ⟨rfl,hz⟩
            have N1:=Lib.hid (U0.out.then hz)
            clear hz)
         | (go_at_call 30
            with_reducible refine(NC2.out _ N1.out.m).mono ?_
            rintro e nw2 ⟨rfl,hz⟩
            have N2:=Lib.hid (N1.out.then hz)
            clear hz)
         | (go_at_call 52
            with_reducible refine(NC3.out _ N2.out.m).mono ?_
            rintro e nw3 ⟨rfl,hz⟩
            have N3:=Lib.hid (N2.out.then hz)
            clear hz)
         | (go_at_call 31
            with_reducible refine(NC4.out _ N3.out.m).mono ?_
            rintro e nw4 ⟨rfl,hz⟩
            have N4:=Lib.hid (N3.out.then hz)
            clear hz)
         | fail)
       try rw[Exit.noGoto_normal]
       first|go_end0|refine bodyPost_ret (results_none rfl _ _ _) rfl ?_
       refine⟨rfl,?_⟩
       rw[HT.out]
       unfold lstP
       rw[HE.out]
       exact N4.out
      ·have hy:=LC.y (lst_c hL u hBu.p) (t:=linesP F (nodeP 3 (andP F L) u)) (by show sepP F (nodeP 3 (andP F L) u)=_;unfold sepP;rw[if_neg (by rw[ha];decide),if_pos hk,hp])
       have HE:=Lib.hid ((LC.stepy (lst_c hL) hBu.p (t:=linesP F (nodeP 3 (andP F L) u)) (by show sepP F (nodeP 3 (andP F L) u)=_;unfold sepP;rw[if_neg (by rw[ha];decide),if_pos hk,hp])).symm.trans HU.out)
       have YC1:=Lib.hid (fun W1 (h1:Mk g fv F (u) W1)=>nodeA_m hF hL HL h1 hqu hBu)
       have YC2:=Lib.hid (fun W1 (h1:Mk g fv F (nodeP 3 (andP F L) u) W1)=>take_mn hF h1 hBv.p [59,38] (by decide) ha)
       have YC3:=Lib.hid (fun W1 (h1:Mk g fv F (nodeP 3 (andP F L) u) W1)=>lines_my hF h1 hBv.p hk)
       have YC4:=Lib.hid (fun W1 (h1:Mk g fv F (linesP F (nodeP 3 (andP F L) u)) W1)=>pipes_my hF h1 hB3.p hp)
       go_wp2_with (first
         | (go_at_call 14
            with_reducible refine(YC1.out _ U0.out.m).mono ?_
            rintro e yw1 ⟨rfl,hz⟩
            have Y1:=Lib.hid (U0.out.then hz)
            clear hz)
         | (go_at_call 30
            with_reducible refine(YC2.out _ Y1.out.m).mono ?_
            rintro e yw2 ⟨rfl,hz⟩
            have Y2:=Lib.hid (Y1.out.then hz)
            clear hz)
         | (go_at_call 52
            with_reducible refine(YC3.out _ Y2.out.m).mono ?_
            rintro e yw3 ⟨rfl,hz⟩
            have Y3:=Lib.hid (Y2.out.then hz)
            clear hz)
         | (go_at_call 31
            with_reducible refine(YC4.out _ Y3.out.m).mono ?_
            rintro e yw4 ⟨rfl,hz⟩
            have Y4:=Lib.hid (Y3.out.then hz)
            clear hz)
         | fail)
       refine⟨⟨_,Nat.le_trans hqu (Nat.succ_le_succ (Nat.le_of_lt hy.2)),hBu.gd hy.1,HE.out,Y4.out⟩,?_⟩
       rw[Y4.out.m.pOf,HP.out]
       have:=hy.2
       have:=hy.1.N
       omega
    ·have hlt:=comes_lt ha (by decide)
     have hn2:=hBv.next hlt (by omega)
     have hg3:=gd_lines (F:=F) hn2.p
     have hB3:=hn2.gd hg3
     cases hp:pipeB F (linesP F (nextP (nodeP 3 (andP F L) u)))
     ·have HE:=Lib.hid (HU.out.symm.trans (LC.stepn (lst_c hL) hBu.p (t:=linesP F (nextP (nodeP 3 (andP F L) u))) (by show sepP F (nodeP 3 (andP F L) u)=_;unfold sepP;rw[if_pos ha,hp])))
      have NC1:=Lib.hid (fun W1 (h1:Mk g fv F (u) W1)=>nodeA_m hF hL HL h1 hqu hBu)
      have NC2:=Lib.hid (fun W1 (h1:Mk g fv F (nodeP 3 (andP F L) u) W1)=>take_my hF h1 hBv.p [59,38] (by decide) ha)
      have NC3:=Lib.hid (fun W1 (h1:Mk g fv F (nextP (nodeP 3 (andP F L) u)) W1)=>lines_m hF h1 hn2.p)
      have NC4:=Lib.hid (fun W1 (h1:Mk g fv F (linesP F (nextP (nodeP 3 (andP F L) u))) W1)=>pipes_mn hF h1 hB3.p hp)
      go_wp2_with (first
        | (go_at_call 14
           with_reducible refine(NC1.out _ U0.out.m).mono ?_
           rintro e nw1 ⟨rfl,hz⟩
           have N1:=Lib.hid (U0.out.then hz)
           clear hz)
        | (go_at_call 30
           with_reducible refine(NC2.out _ N1.out.m).mono ?_
           rintro e nw2 ⟨rfl,hz⟩
           have N2:=Lib.hid (N1.out.then hz)
           clear hz)
        | (go_at_call 52
           with_reducible refine(NC3.out _ N2.out.m).mono ?_
           rintro e nw3 ⟨rfl,hz⟩
           have N3:=Lib.hid (N2.out.then hz)
           clear hz)
        | (go_at_call 31
           with_reducible refine(NC4.out _ N3.out.m).mono ?_
           rintro e nw4 ⟨rfl,hz⟩
           have N4:=Lib.hid (N3.out.then hz)
           clear hz)
        | fail)
      try rw[Exit.noGoto_normal]
      first|go_end0|refine bodyPost_ret (results_none rfl _ _ _) rfl ?_
      refine⟨rfl,?_⟩
      rw[HT.out]
      unfold lstP
      rw[HE.out]
      exact N4.out
     ·have hy:=LC.y (lst_c hL u hBu.p) (t:=linesP F (nextP (nodeP 3 (andP F L) u))) (by show sepP F (nodeP 3 (andP F L) u)=_;unfold sepP;rw[if_pos ha,hp])
      have HE:=Lib.hid ((LC.stepy (lst_c hL) hBu.p (t:=linesP F (nextP (nodeP 3 (andP F L) u))) (by show sepP F (nodeP 3 (andP F L) u)=_;unfold sepP;rw[if_pos ha,hp])).symm.trans HU.out)
      have YC1:=Lib.hid (fun W1 (h1:Mk g fv F (u) W1)=>nodeA_m hF hL HL h1 hqu hBu)
      have YC2:=Lib.hid (fun W1 (h1:Mk g fv F (nodeP 3 (andP F L) u) W1)=>take_my hF h1 hBv.p [59,38] (by decide) ha)
      have YC3:=Lib.hid (fun W1 (h1:Mk g fv F (nextP (nodeP 3 (andP F L) u)) W1)=>lines_m hF h1 hn2.p)
      have YC4:=Lib.hid (fun W1 (h1:Mk g fv F (linesP F (nextP (nodeP 3 (andP F L) u))) W1)=>pipes_my hF h1 hB3.p hp)
      go_wp2_with (first
        | (go_at_call 14
           with_reducible refine(YC1.out _ U0.out.m).mono ?_
           rintro e yw1 ⟨rfl,hz⟩
           have Y1:=Lib.hid (U0.out.then hz)
           clear hz)
        | (go_at_call 30
           with_reducible refine(YC2.out _ Y1.out.m).mono ?_
           rintro e yw2 ⟨rfl,hz⟩
           have Y2:=Lib.hid (Y1.out.then hz)
           clear hz)
        | (go_at_call 52
           with_reducible refine(YC3.out _ Y2.out.m).mono ?_
           rintro e yw3 ⟨rfl,hz⟩
           have Y3:=Lib.hid (Y2.out.then hz)
           clear hz)
        | (go_at_call 31
           with_reducible refine(YC4.out _ Y3.out.m).mono ?_
           rintro e yw4 ⟨rfl,hz⟩
           have Y4:=Lib.hid (Y3.out.then hz)
           clear hz)
        | fail)
      refine⟨⟨_,Nat.le_trans hqu (Nat.succ_le_succ (Nat.le_of_lt hy.2)),hBu.gd hy.1,HE.out,Y4.out⟩,?_⟩
      rw[Y4.out.m.pOf,HP.out]
      have:=hy.2
      have:=hy.1.N
      omega
theorem list_m {g:Nat} {fv:Value} {F:List Lf} (hF:FB F):∀n q,F.length+1≤n+q→ListC g fv F (lstF F n) q
  | 0,q,hn=>fun s W hq hB h=>by have:=hB.p;omega
  | n+1,q,hn=>fun s W hq hB h=>list1_m (q:=q+1) hF (gd_lstF F n) (list_m hF n (q+1) (by omega)) h (by omega) hB
theorem prog_end {F:List Lf} {L:Ps→Ps} (hL:GL F L) {u:Ps} {b:Bool} (h:u.p≤F.length) (hp:¬u.p<F.length):progP F L (u,b)=(u,b):=by
  have h0:sg F u.p=0:=by unfold sg;rw[List.getElem?_eq_none (by omega)]
  have c1:comes F [110] u=false:=by unfold comes;rw[h0];rfl
  have c2:pipeB F u=false:=Bool.eq_false_iff.2 fun h=>hp (pipe_lt h)
  have e:progC F L (u,b)=((u,b),false):=by
    unfold progC
    simp only[c1,c2,Bool.and_false,if_false,Bool.false_eq_true]
    rw[if_neg hp]
  rw[progP_eq hL _ h,e]
  rfl
structure Pg (F:List Lf) (L:Ps→Ps) (T u:Ps) (b:Bool):Prop where
  p:u.p≤F.length
  d:u.deep≤200
  l:u.l.length+(if b=true then 0 else 4)≤16*u.p+5
  t:(progP F L (u,b)).1=T
theorem Pg.bd {F:List Lf} {L:Ps→Ps} {T u:Ps} {b:Bool} (h:Pg F L T u b):Bd F 5 u:=⟨h.p,by have:=h.l;omega,h.d⟩
theorem Pg.step {F:List Lf} {L:Ps→Ps} {T u t:Ps} {b b':Bool} (hL:GL F L) (h:Pg F L T u b) (e:progC F L (u,b)=((t,b'),true)):Pg F L T t b'∧progM (u,b)<progM (t,b'):=by
  have h1:=progC_ok hL (u,b) h.p (by rw[e])
  rw[e] at h1
  obtain⟨h2,h3,h4,h5⟩:=h1
  replace h3:t.p≤F.length:=h3
  replace h5:t.l.length+16*u.p+(if b'=true then 0 else 4)≤u.l.length+16*t.p+(if b=true then 0 else 4):=h5
  refine⟨⟨h3,by have:=h4.dp;show t.deep≤200;rw[this];exact h.d,by have:=h.l;omega,?_⟩,h2⟩
  rw[←h.t,progP_eq hL (u,b) h.p,e]
  rfl
def pMs (v:Value):Nat:=match v with | .bool true=>1|_=>0
set_option maxHeartbeats 4000000 in
theorem program_m {g:Nat} {fv:Value} {F:List Lf} {L:Ps→Ps} {q:Nat} {s T:Ps} {W:World} (hF:FB F) (hL:GL F L) (HL:ListC g fv F L q) (h:Mk g fv F s W) (hq:q=0) (hB:Bd F 5 s) (hPg:Pg F L T s false) :
    Calls Tryz.prog 15 #[.pointer (some ⟨g,0,none⟩)] W fun e w'=>e=.returned (.tuple #[])∧Mz g fv F W (T) w':=by
  have hn:=hF.n
  have H0:=Lib.hid (Mz.start h)
  clear h hB
  go_enter Tryz.func15,Tryz.ntmps15
  go_wp2_with fail
  go_loopw [2] (fun v wr=>∃(u:Ps) (b:Bool),v=.bool b∧Pg F L T u b∧Mz g fv F W u wr) (fun v wr=>2*F.length+2-(2*pOf g wr+pMs v))
  case atStart=>exact⟨s,false,rfl,hPg,H0.out⟩
  case round=>
    obtain⟨u,b,rfl,hPu,hz⟩:=hrel
    have U0:=Lib.hid hz
    have hup:=hz.m.pOf
    have HP:=Lib.hid hup
    have HS:=Lib.hid hPu
    have hBu:=hPu.bd
    obtain⟨y0,y1,_⟩:=hz.m.cells
    obtain⟨A,c,hfv⟩:=hz.m.f.formm
    rw[hfv] at y0
    have hup:=hPu.p
    clear hz hPu hfv
    have qd:∀n,Mz g fv F W u (wr.drewN n):=fun n=>U0.out.drew n
    have QD:=Lib.hid qd
    clear qd
    by_cases hlt:u.p<F.length
    ·have u1:(u.p:Int)<(F.length:Int):=by omega
     have d1:decide ((u.p:Int)<(F.length:Int))=true:=decide_eq_true u1
     cases hc:comes F [110] u
     ·cases b
      ·cases hp:pipeB F u
       ·have hst:=HS.out.step hL (t:=leafP 17 u) (b':=false) (by unfold progC;simp only[hc,hp,hlt,Bool.and_false,if_true,if_false,Bool.false_eq_true])
        have HG:=Lib.hid hst
        clear hst
        have NC1:=Lib.hid (fun W1 (h1:Mk g fv F (u) W1)=>take_mn hF h1 hBu.p [110] (by decide) hc)
        have NC2:=Lib.hid (fun W1 (h1:Mk g fv F (u) W1)=>pipes_mn hF h1 hBu.p hp)
        have NC3:=Lib.hid (fun W1 (h1:Mk g fv F (u) W1)=>leaf17_m hF h1 (hBu.mono (by omega)) hlt)
        go_wp2_with fail
        go_quiet (fail)
        have D0:=Lib.hid (QD.out nq)
        go_wp2_with (first
          | (go_at_call 30
             with_reducible refine(NC1.out _ D0.out.m).mono ?_
             rintro e nw1 ⟨rfl,hz⟩
             have N1:=Lib.hid (D0.out.then hz)
             clear hz)
          | (go_at_call 31
             with_reducible refine(NC2.out _ N1.out.m).mono ?_
             rintro e nw2 ⟨rfl,hz⟩
             have N2:=Lib.hid (N1.out.then hz)
             clear hz)
          | (go_at_call 33
             with_reducible refine(NC3.out _ N2.out.m).mono ?_
             rintro e nw3 ⟨rfl,hz⟩
             have N3:=Lib.hid (N2.out.then hz)
             clear hz)
          | fail)
        refine⟨⟨_,_,rfl,HG.out.1,N3.out⟩,?_⟩
        rw[N3.out.m.pOf,HP.out]
        have h1:=HG.out.2
        have h2:=HG.out.1.p
        unfold progM at h1
        simp only[Bool.false_eq_true,if_true,if_false] at h1
        simp only[pMs]
        omega
       ·have hst:=HS.out.step hL (t:=nodeP 2 L u) (b':=true) (by unfold progC;simp only[hc,hp,Bool.not_false,Bool.true_and,Bool.and_self,if_true,if_false,Bool.false_eq_true])
        have HG:=Lib.hid hst
        clear hst
        have NC1:=Lib.hid (fun W1 (h1:Mk g fv F (u) W1)=>take_mn hF h1 hBu.p [110] (by decide) hc)
        have NC2:=Lib.hid (fun W1 (h1:Mk g fv F (u) W1)=>pipes_my hF h1 hBu.p hp)
        have NC3:=Lib.hid (fun W1 (h1:Mk g fv F (u) W1)=>nodeL_m hF hL HL h1 (by omega) (hBu.mono (by omega)))
        go_wp2_with fail
        go_quiet (fail)
        have D0:=Lib.hid (QD.out nq)
        go_wp2_with (first
          | (go_at_call 30
             with_reducible refine(NC1.out _ D0.out.m).mono ?_
             rintro e nw1 ⟨rfl,hz⟩
             have N1:=Lib.hid (D0.out.then hz)
             clear hz)
          | (go_at_call 31
             with_reducible refine(NC2.out _ N1.out.m).mono ?_
             rintro e nw2 ⟨rfl,hz⟩
             have N2:=Lib.hid (N1.out.then hz)
             clear hz)
          | (go_at_call 14
             with_reducible refine(NC3.out _ N2.out.m).mono ?_
             rintro e nw3 ⟨rfl,hz⟩
             have N3:=Lib.hid (N2.out.then hz)
             clear hz)
          | fail)
        refine⟨⟨_,_,rfl,HG.out.1,N3.out⟩,?_⟩
        rw[N3.out.m.pOf,HP.out]
        have h1:=HG.out.2
        have h2:=HG.out.1.p
        unfold progM at h1
        simp only[Bool.false_eq_true,if_true,if_false] at h1
        simp only[pMs]
        omega
      ·have hst:=HS.out.step hL (t:=leafP 17 u) (b':=false) (by unfold progC;simp only[hc,hlt,Bool.not_true,Bool.false_and,if_true,if_false,Bool.false_eq_true])
       have HG:=Lib.hid hst
       clear hst
       have NC1:=Lib.hid (fun W1 (h1:Mk g fv F (u) W1)=>take_mn hF h1 hBu.p [110] (by decide) hc)
       have NC2:=Lib.hid (fun W1 (h1:Mk g fv F (u) W1)=>leaf17_m hF h1 (hBu.mono (by omega)) hlt)
       go_wp2_with fail
       go_quiet (fail)
       have D0:=Lib.hid (QD.out nq)
       go_wp2_with (first
         | (go_at_call 30
            with_reducible refine(NC1.out _ D0.out.m).mono ?_
            rintro e nw1 ⟨rfl,hz⟩
            have N1:=Lib.hid (D0.out.then hz)
            clear hz)
         | (go_at_call 33
            with_reducible refine(NC2.out _ N1.out.m).mono ?_
            rintro e nw2 ⟨rfl,hz⟩
            have N2:=Lib.hid (N1.out.then hz)
            clear hz)
         | fail)
       refine⟨⟨_,_,rfl,HG.out.1,N2.out⟩,?_⟩
       rw[N2.out.m.pOf,HP.out]
       have h1:=HG.out.2
       have h2:=HG.out.1.p
       unfold progM at h1
       simp only[Bool.false_eq_true,if_true,if_false] at h1
       simp only[pMs]
       omega
     ·cases b
      have hst:=HS.out.step hL (t:=nextP u) (b':=false) (by unfold progC;simp only[hc,if_true])
      rotate_left
      have hst:=HS.out.step hL (t:=nextP u) (b':=true) (by unfold progC;simp only[hc,if_true])
      rotate_left
      all_goals (
        have HG:=Lib.hid hst
        clear hst
        have NC1:=Lib.hid (fun W1 (h1:Mk g fv F (u) W1)=>take_my hF h1 hBu.p [110] (by decide) hc)
        go_wp2_with fail
        go_quiet (fail)
        have D0:=Lib.hid (QD.out nq)
        go_wp2_with (
          (go_at_call 30
           with_reducible refine(NC1.out _ D0.out.m).mono ?_
           rintro e nw1 ⟨rfl,hz⟩
           have N1:=Lib.hid (D0.out.then hz)
           clear hz))
        refine⟨⟨_,_,rfl,HG.out.1,N1.out⟩,?_⟩
        rw[N1.out.m.pOf,HP.out]
        have h1:=HG.out.2
        have h2:=HG.out.1.p
        unfold progM at h1
        simp only[Bool.false_eq_true,if_true,if_false] at h1
        simp only[pMs]
        omega)
    ·have u1:¬(u.p:Int)<(F.length:Int):=by omega
     have d1:decide ((u.p:Int)<(F.length:Int))=false:=decide_eq_false u1
     go_wp2_with fail
     go_quiet (fail)
     go_wp2_with fail
     first|go_end0|refine bodyPost_ret (results_none rfl _ _ _) rfl ?_
     exact⟨rfl,by rw[←HS.out.t,prog_end hL hup hlt];exact QD.out _⟩
end Go.Proofs.YtlbfdbinaekjoaaGreatDoor
namespace Go.Proofs.YtlbfdbinaekjoaaGreatDoor
open Go.RowKit
set_option linter.unusedVariables false
set_option linter.unusedSimpArgs false
set_option maxRecDepth 100000
theorem own_nil (w:World) (B e sz:Nat):w.ownsRow B e sz (.slice none 0 0) 0 []:=⟨by simp,.inl ⟨rfl,rfl⟩⟩
theorem parse_len (F:List Lf):(parseT F).l.length≤16*F.length+5:=by
  obtain⟨h1,h2⟩:=gd_parse F
  have h3:=h1.b
  rw[h2] at h3
  have e1:(ps0 0).l.length=0:=rfl
  have e2:(ps0 0).p=0:=rfl
  omega
set_option maxHeartbeats 2000000 in
theorem parse_m (F:List Lf) (fv:Value) (w:World) (hF:FB F) (hR:Rd w w.heap.size 4 fv F.length (lfcs F)) :
    Calls Tryz.prog 8 #[fv] w fun e w'=>∃v,e=.returned v∧w'.ownsRow w.heap.size 38 4 v (parseT F).l.length (ndcs (parseT F).l)∧Below w.heap.size w w':=by
  have hL:=gd_lstF F (F.length+1)
  have hi:Bd F 1 (inN 1 (ps0 0)):=⟨Nat.zero_le _,by show (([]:List Nd)++[_]).length≤46*0+1;simp,by show 0≤200;omega⟩
  have hg:=gd_prog hL _ (inN 1 (ps0 0),false) rfl hi.p
  have hn:=hF.n
  have hx:∀W0,Mk w.heap.size fv F (ps0 0) W0→Calls Tryz.prog 14 #[.pointer (some ⟨w.heap.size,0,none⟩),.int .i64 1,.func (.func 15) #[.pointer (some ⟨w.heap.size,0,none⟩)] #[]] W0 fun e w'=>e=.returned (.tuple #[])∧Mz w.heap.size fv F W0 (parseT F) w':=fun W0 h0=>by
    have h1:=hg.1.l
    have h2:=hg.2
    have h3:(inN 1 (ps0 0)).l.length=1:=rfl
    rw[h3] at h1
    exact node_v (t:=(progP F (lstA F) (inN 1 (ps0 0),false)).1) 1 _ h0 (by show 0≤50000;omega) (by omega) (enters_of Tryz.func15 (by kernel_rfl) rfl)
      (fun W1 z1=>program_m (q:=0) hF hL (list_m hF (F.length+1) 0 (by omega)) z1.m rfl (hi.mono (by omega)) ⟨hi.p,hi.d,by show 1+4≤16*0+5;omega,rfl⟩) (Nat.lt_of_lt_of_le Nat.zero_lt_one h1) (by show (progP F (lstF F (F.length+1)) (inN 1 (ps0 0),false)).1.p≤100000;rw[h2];omega)
  obtain⟨A,c,rfl⟩:=hR.formm
  have HX:=Lib.hid hx
  have HR:=Lib.hid hR
  clear hx hR hg hi hL
  go_enter Tryz.func8,Tryz.ntmps8
  go_upto_region 2 with fail
  refine gen1 fun W0 hb0 k0 hs0=>?_
  have M0:Mk w.heap.size _ F (ps0 0) W0:=⟨⟨.slice none 0 0,k0,own_nil _ _ _ _⟩,HR.out.keep hb0 (Nat.le_refl _)⟩
  have HM:=Lib.hid M0
  have HB:=Lib.hid hb0
  clear hb0 k0 hs0 M0
  go_wp2_with (
    (go_at_call 14
     refine(HX.out _ HM.out).mono ?_
     rintro e w1 ⟨rfl,hz⟩
     obtain⟨lv,hb1,ho1⟩:=hz.m.w
     obtain⟨c0,c1,c2,c3,c4⟩:=hb1.fivem
     have H1:=Lib.hid (And.intro hz.f.hb ho1)
     clear hz hb1 ho1))
  go_ret
  exact⟨_,rfl,H1.out.2,HB.out.trans H1.out.1⟩
end Go.Proofs.YtlbfdbinaekjoaaGreatDoor
namespace Go.Proofs.YtlbfdbinaekjoaaGreatDoor
open Go.RowKit
set_option linter.unusedVariables false
set_option linter.unusedSimpArgs false
set_option maxRecDepth 100000
def tz3 (t:Tk):Tz:=⟨t.kd,t.fr,t.to,t.op⟩
theorem tkcs_tz3 (ts:List Tk):tkcs ts=(ts.map tz3).flatMap tzc:=by
  unfold tkcs
  rw[List.flatMap_map]
  rfl
def lvs3 (l:List UInt8):List Lf:=leavesZ l ((lexL l).1.map tz3)
theorem leavesZ_tx (l:List UInt8) (ts:List Tz):∀x∈leavesZ l ts,x.tx.length≤l.length:=by
  intro x hx
  obtain⟨t,_,ht⟩:=List.mem_flatMap.1 hx
  unfold leafZ at ht
  split at ht
  ·simp only[List.mem_singleton] at ht
   subst ht
   show (txZ l t).length≤_
   unfold txZ
   split
   ·unfold sub
    rw[List.length_drop,List.length_take]
    omega
   ·exact Nat.zero_le _
  ·simp at ht
theorem lvs3_fb (l:List UInt8) (hl:l.length≤900):FB (lvs3 l):=by
  refine⟨?_,fun x hx=>Nat.le_trans (leavesZ_tx l _ x hx) (by omega)⟩
  have h1:=leavesZ_len l ((lexL l).1.map tz3)
  have h2:=lexL_len l
  rw[List.length_map] at h1
  exact Nat.le_trans h1 (by omega)
set_option maxHeartbeats 2000000 in
theorem pof_m (l:List UInt8) (w:World) (hl:l.length≤900) :
    Calls Tryz.prog 9 #[.string ⟨l.toArray⟩] w fun e w'=>∃v1 v2,e=.returned (.tuple #[v1,v2])∧w'.ownsRow w.heap.size 35 4 v1 (lvs3 l).length (lfcs (lvs3 l))∧w'.ownsRow w.heap.size 38 4 v2 (parseT (lvs3 l)).l.length (ndcs (parseT (lvs3 l)).l)∧Below w.heap.size w w':=by
  have c1:=fun W=>lex_m l W hl
  have c2:=fun (A:Option Addr) (c:Nat) W (hR:Rd W W.heap.size 4 (.slice A ((lexL l).1.map tz3).length c) ((lexL l).1.map tz3).length (((lexL l).1.map tz3).flatMap tzc))=>leaves_z l ((lexL l).1.map tz3) A c W (by omega) (by rw[List.length_map];have:=lexL_len l;omega) hR
  have c3:=fun fv W (hR:Rd W W.heap.size 4 fv (lvs3 l).length (lfcs (lvs3 l)))=>parse_m (lvs3 l) fv W (lvs3_fb l hl) hR
  have e1:tkcs (lexL l).1=((lexL l).1.map tz3).flatMap tzc:=tkcs_tz3 _
  have e2:(lexL l).1.length=((lexL l).1.map tz3).length:=by rw[List.length_map]
  rw[e1,e2] at c1
  rw[show leavesZ l ((lexL l).1.map tz3)=lvs3 l from rfl] at c2
  obtain⟨Z,hZ⟩:∃Z,Z=(lexL l).1.map tz3:=⟨_,rfl⟩
  obtain⟨Y,hY⟩:∃Y,Y=(lexL l).2:=⟨_,rfl⟩
  rw[←hZ] at c1 c2
  rw[←hY] at c1
  have HC:=Lib.hid (And.intro c1 (And.intro c2 c3))
  clear c1 c2 c3 e1 e2 hZ hY
  go_enter Tryz.func9,Tryz.ntmps9
  go_wp2_with (first
    | (go_at_call 16
       refine(HC.out.1 _).mono ?_
       rintro e w1 ⟨v1,v2,rfl,ho,⟨v3,rfl,hr⟩,hb⟩
       obtain⟨A1,n1,c1,rfl⟩:=own_form' ho
       obtain rfl:=own_len ho
       obtain⟨A3,c3,rfl⟩:=hr.form
       unfold lxv
       have H1:=Lib.hid (And.intro ho hb)
       clear ho hb hr)
    | (go_at_call 17
       have hba:Below w1.heap.size w1 (w1.alloc (.cells #[.int .i64 Y.aw,.slice A3 Y.pd.length c3,.bool Y.bd] 47)):=(Below.refl _ w1).alloc (Nat.le_refl _) _
       refine(HC.out.2.1 _ _ _ (Rd.of_own (own_below H1.out.1 hba))).mono ?_
       rintro e w2 ⟨v,rfl,ho,hb⟩
       have H2:=Lib.hid (And.intro (own_base ho (show w.heap.size≤_ from Nat.le_trans H1.out.2.size hba.size)) (H1.out.2.trans ((hba.trans (hb.mono hba.size)).mono H1.out.2.size)))
       clear ho hb hba)
    | (go_at_call 8
       refine(HC.out.2.2 _ _ (Rd.of_own H2.out.1)).mono ?_
       rintro e w3 ⟨v3,rfl,ho,hb⟩
       have H3:=Lib.hid (And.intro (own_below H2.out.1 hb) (And.intro (own_base ho H2.out.2.size) (H2.out.2.trans (hb.mono H2.out.2.size))))
       clear ho hb)
    | fail)
  go_ret2
  exact⟨_,_,rfl,H3.out⟩
end Go.Proofs.YtlbfdbinaekjoaaGreatDoor
