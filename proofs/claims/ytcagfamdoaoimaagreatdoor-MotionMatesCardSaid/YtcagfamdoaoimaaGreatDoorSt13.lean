/- The reference's parser: pipes and lists. PRINTED by gen_je13.py. -/
import Derived.Test.YtcagfamdoaoimaaGreatDoorJd13
import Derived.Test.YtcagfamdoaoimaaGreatDoorQc13
import Derived.Test.YtcagfamdoaoimaaGreatDoorWs13
set_option linter.unusedVariables false
set_option linter.unusedSimpArgs false
set_option maxRecDepth 100000
set_option maxHeartbeats 8000000
namespace Go.Proofs.YtcagfamdoaoimaaGreatDoor
section
open Go.RowKit
theorem F7 {F:List Lf} {s:Ps} (hs:s.p≤F.length) (h:dQ F [110] s=true):s.p<(dK F s).p:=by
  have h1:=eh h (by decide);have h2:dK F s=dK F (dM s):=LC.goy (kV (F:=F)) hs (by rw[aD h]);have h3:=(dY (F:=F) (s:=dM s) h1).p;rw[h2];exact bA (dH _) h3
section
variable {g:Nat} {fv:Value} {F:List Lf} {L:Ps→Ps} {q:Nat} {s:Ps} {W:World} (hF:FB F) (hL:GL F L) (HL:sA g fv F L q)
include hF hL HL
theorem Kx (hq:q≤s.p+1) (hB:Bd F 23 s) (hb:fq F s=true) (h:Nk g fv F s W) :
    vY 112 g fv F W (.tuple #[]) (jE F L s):=by
  have hn:=hF.n;have hp:=hB.p;have H0:=aa (Ny.start h);have HX:=aa (show jE F L s=dO 4 (jF F L) s by unfold jE;rw[aD hb]);have hi:=hB.inn 4;have hg1:=gr (F:=F) (cs:=[33]) (by decide) hi.p;have hB1:=hi.gd hg1;have hq1:q≤(eB F [33] (fC 4 s)).p+1:=aA hq (bH hg1.p);have hg2:=uq hL hB1.p;have hB2:=hB1.gd hg2;have hq2:q≤(iS F L (eB F [33] (fC 4 s))).p+1:=aA hq1 (bH hg2.p);have HGE:=aa (um hL hi.p);have hi5:(fC 4 s).p≤100000:=by show s.p≤_;omega
  clear h
  cases h1:dQ F [33] (fC 4 s)
  case' false=>have HK:=aa (show eB F [33] (fC 4 s)=fC 4 s from pg h1)
  case' true=>have HK:=aa (show eB F [33] (fC 4 s)=dM (fC 4 s) from lU h1)
  all_goals (
    go_enter Tryz.func112,Tryz.ntmps112
    go_wp2_with (first
      | (go_at_call 143;with_reducible refine Ny.go (Ny.cast A2 HK.out) (vQ hF hL HL hq1 (hB1.mono (by omega))) fun a3 A3=>?_)
      | (go_at_call 37;with_reducible refine Ny.go A1 (fe false hF hi.p [33] (by decide) h1) fun a2 A2=>?_)
      | (go_at_call 37;with_reducible refine Ny.inc A1 (hi5) (fe true hF hi.p [33] (by decide) h1) fun a2 ga2 da2 ka2 va2 A2=>?_)
      | (go_at_call 36;with_reducible refine Ny.go H0 (lh hF 4 (by decide) (hB.mono (by omega))) fun a1 A1=>?_)
      | fail)
    go_loopw [] (fun wr=>∃u:Ps,q≤u.p+1∧Bd F 26 u∧(eO F.length (fun s=>if dQ F [124] s=true then (iS F L (dK F (dM s)),true) else (s,false))) u=(eO F.length (fun s=>if dQ F [124] s=true then (iS F L (dK F (dM s)),true) else (s,false))) (iS F L (eB F [33] (fC 4 s)))∧Ny g fv F W u wr) (fun wr=>F.length-pOn g wr)
    case atStart=>exact⟨_,hq2,hB2.mono (by omega),rfl,A3.out⟩
    case round=>
      obtain⟨u,hqu,hBu,hlu,hz⟩:=hrel;have U0:=aa hz;have HU:=aa hlu;have HP:=aa hz.m.pOn;have hup:=hBu.p;clear hz hlu
      cases hc:dQ F [124] u
      ·have HE:=aa (show jF F L (fC 4 s)=u by unfold jF;exact HU.out.symm.trans (LC.gon (lN hL) hBu.p (t:=u) (by show (if _ then _ else _)=_;rw[aB (by rw[hc];decide)])))
       go_wp2_with (first
         | (go_at_call 41;with_reducible refine Ny.go (Ny.cast E1 HE.out) (nW hF 4 (jF F L) (by decide) (hB.mono (by omega)) HGE.out (by omega)) fun e2 E2=>?_)
         | (go_at_call 37;with_reducible refine Ny.go U0 (fe false hF hup [124] (by decide) hc) fun e1 E1=>?_)
         | fail)
       first|go_end0|refine bn ?_
       exact⟨rfl,by rw[HX.out];exact E2.out⟩
      ·have hltu:=eh hc (by decide);have hn2:=hBu.next hltu (by omega);have hg3:=dY (F:=F) hn2.p;have hB3:=hn2.gd hg3;have hq3:q≤(dK F (dM u)).p+1:=aA hqu (bH (aA (cg _) hg3.p));have hy:=(lN hL u hBu.p).yy (t:=iS F L (dK F (dM u))) (by rw[aD hc]);have HE:=aa ((LC.goy (lN hL) hBu.p (t:=iS F L (dK F (dM u))) (by show (if _ then _ else _)=_;rw[aD hc])).symm.trans HU.out)
       go_wp2_with (first
         | (go_at_call 143;with_reducible refine Ny.go E2 (vQ hF hL HL hq3 (hB3.mono (by omega))) fun e3 E3=>?_)
         | (go_at_call 67;with_reducible refine Ny.go E1 (gx hF hn2.p) fun e2 E2=>?_)
         | (go_at_call 37;with_reducible refine Ny.inc U0 (by omega) (fe true hF hup [124] (by decide) hc) fun e1 ge1 de1 ke1 ve1 E1=>?_)
         | fail)
       refine⟨⟨_,aA hqu (bH (bq hy.2)),hBu.gd hy.1,HE.out,E3.out⟩,?_⟩;rw[E3.out.m.pOn,HP.out]
       have:=hy.2
       have:=hy.1.N
       omega)
theorem xw (hq:q≤s.p+1) (hB:Bd F 20 s) (hb:fq F s=true) (h:Nk g fv F s W) :
    vY 66 g fv F W (.tuple #[]) (dO 3 (eR F L) s):=by
  have hn:=hF.n;have hp:=hB.p;have H0:=aa (Ny.start h);have hi:=hB.inn 3;have hb3:fq F (fC 3 s)=true:=hb;have hqi:q≤(fC 3 s).p+1:=hq;have hg2:=uo hL hi.p;have hB2:=hi.gd hg2;have hq2:q≤(jE F L (fC 3 s)).p+1:=aA hq (bH hg2.p);have HGE:=aa (mV hL hi.p);clear h;go_enter Tryz.func66,Tryz.ntmps66
  go_wp2_with (first
    | (go_at_call 112;with_reducible refine Ny.go A1 (Kx hF hL HL hqi (hi.mono (by omega)) hb3) fun a3 A3=>?_)
    | (go_at_call 36;with_reducible refine Ny.go H0 (lh hF 3 (by decide) (hB.mono (by omega))) fun a1 A1=>?_)
    | fail)
  go_loopw [] (fun wr=>∃u:Ps,q≤u.p+1∧Bd F 26 u∧(eO F.length (fun s=>if dQ F [97,111] s=true then (jE F L (dK F (dM s)),true) else (s,false))) u=(eO F.length (fun s=>if dQ F [97,111] s=true then (jE F L (dK F (dM s)),true) else (s,false))) (jE F L (fC 3 s))∧Ny g fv F W u wr) (fun wr=>F.length-pOn g wr)
  case atStart=>exact⟨_,hq2,hB2.mono (by omega),rfl,A3.out⟩
  case round=>
    obtain⟨u,hqu,hBu,hlu,hz⟩:=hrel;have U0:=aa hz;have HU:=aa hlu;have HP:=aa hz.m.pOn;have hup:=hBu.p;clear hz hlu
    cases hc:dQ F [97,111] u
    ·have HE:=aa (show eR F L (fC 3 s)=u by unfold eR;exact HU.out.symm.trans (LC.gon (su hL) hBu.p (t:=u) (by show (if _ then _ else _)=_;rw[aB (by rw[hc];decide)])))
     go_wp2_with (first
       | (go_at_call 41;with_reducible refine Ny.go (Ny.cast E1 HE.out) (nW hF 3 (eR F L) (by decide) (hB.mono (by omega)) HGE.out (by omega)) fun e2 E2=>?_)
       | (go_at_call 37;with_reducible refine Ny.go U0 (fe false hF hup [97,111] (by decide) hc) fun e1 E1=>?_)
       | fail)
     first|go_end0|refine bn ?_
     exact⟨rfl,E2.out⟩
    ·have hltu:=eh hc (by decide);have hn2:=hBu.next hltu (by omega);have hg3:=dY (F:=F) hn2.p;have hB3:=hn2.gd hg3;have hq3:q≤(dK F (dM u)).p+1:=aA hqu (bH (aA (cg _) hg3.p));have hy:=(su hL u hBu.p).yy (t:=jE F L (dK F (dM u))) (by rw[aD hc]);have HE:=aa ((LC.goy (su hL) hBu.p (t:=jE F L (dK F (dM u))) (by show (if _ then _ else _)=_;rw[aD hc])).symm.trans HU.out)
     cases hd:fq F (dK F (dM u))
     case' false=>have HM:=aa (show jE F L (dK F (dM u))=eS (dK F (dM u)) by unfold jE;rw[aB (by rw[hd];decide)])
     all_goals (
       go_wp2_with (first
         | (go_at_call 112;with_reducible refine Ny.go E3 (Kx hF hL HL hq3 (hB3.mono (by omega)) hd) fun e4 E4=>?_)
         | (go_at_call 113;with_reducible refine Ny.go E3 (nM hF (hB3.mono (by omega))) fun e4 E4=>?_)
         | (go_at_call 38;with_reducible refine Ny.go E2 (mN hF _ hB3.p hd) fun e3 E3=>?_)
         | (go_at_call 67;with_reducible refine Ny.go E1 (gx hF hn2.p) fun e2 E2=>?_)
         | (go_at_call 37;with_reducible refine Ny.inc U0 (by omega) (fe true hF hup [97,111] (by decide) hc) fun e1 ge1 de1 ke1 ve1 E1=>?_)
         | fail))
     ·exact⟨⟨_,aA hqu (bH (bq hy.2)),hBu.gd hy.1,HE.out,(Ny.cast E4 HM.out).out⟩,by
        rw[(Ny.cast E4 HM.out).out.m.pOn,HP.out]
        have:=hy.2
        have:=hy.1.N
        omega⟩
     ·exact⟨⟨_,aA hqu (bH (bq hy.2)),hBu.gd hy.1,HE.out,E4.out⟩,by
        rw[E4.out.m.pOn,HP.out]
        have:=hy.2
        have:=hy.1.N
        omega⟩
theorem Jv (hq:q≤s.p+1) (hB:Bd F 19 s) (hb:fq F s=true) (h:Nk g fv F s W) :
    vY 39 g fv F W (.tuple #[]) (dO 2 (gP F L) s):=by
  have hn:=hF.n;have hp:=hB.p;have H0:=aa (Ny.start h);have hi:=hB.inn 2;have hb2:fq F (fC 2 s)=true:=hb;have hqi:q≤(fC 2 s).p+1:=hq;have HGE:=aa (Gx hL hi.p);clear h;go_enter Tryz.func39,Tryz.ntmps39
  go_wp2_with (first
    | (go_at_call 66;with_reducible refine Ny.go A1 (xw hF hL HL hqi (hi.mono (by omega)) hb2) fun a3 A3=>?_)
    | (go_at_call 36;with_reducible refine Ny.go H0 (lh hF 2 (by decide) (hB.mono (by omega))) fun a1 A1=>?_)
    | fail)
  go_loopw [] (fun wr=>∃u:Ps,q≤u.p+1∧Bd F 20 u∧fq F u=true∧gP F L (fC 2 s)=gP F L u∧Ny g fv F W (dO 3 (eR F L) u) wr) (fun wr=>F.length-pOn g wr)
  case atStart=>exact⟨fC 2 s,hqi,hi,hb2,rfl,A3.out⟩
  case round=>
    obtain⟨u,hqu,hBu,hpu,hlu,hz⟩:=hrel;have U0:=aa hz;have HU:=aa hlu;have HP:=aa hz.m.pOn;have hup:=hBu.p;clear hz hlu;have hgv:=Gd.node0 (k:=3) (s:=u) (f:=eR F L) (A:=2) (N:=F.length) fun t ht _=>mV hL (by rw[ht];exact hBu.p)
    have hBv:=hBu.gd hgv;have hvp:=hBv.p
    cases ha:dQ F [59,38] (dO 3 (eR F L) u)
    ·cases hk:dQ F [110] (dO 3 (eR F L) u)
     ·obtain⟨hz0,hz1⟩:=KA hBv.p hk;have HZ:=aa hz1.symm;clear hz1;have HE:=aa (show gP F L (fC 2 s)=dO 3 (eR F L) u by rw[HU.out];exact LC.gon (jX hL) hBu.p (t:=dO 3 (eR F L) u) (by show gZ F (dO 3 (eR F L) u)=_;unfold gZ;rw[aB (by rw[ha];decide),aB (by rw[hk];decide)]))
      go_wp2_with (first
        | (go_at_call 41;with_reducible refine Ny.go (Ny.cast (Ny.cast E2 HZ.out) HE.out) (nW hF 2 (gP F L) (by decide) (hB.mono (by omega)) HGE.out (by omega)) fun e9 E9=>?_)
        | (go_at_call 67;with_reducible refine Ny.go E1 (gx hF hBv.p) fun e2 E2=>?_)
        | (go_at_call 37;with_reducible refine Ny.go U0 (fe false hF hBv.p [59,38] (by decide) ha) fun e1 E1=>?_)
        | fail)
      try rw[bj]
      first|go_end0|refine bn ?_
      exact⟨rfl,E9.out⟩
     ·have hz0:=Kz hBv.p hk;have hg3:=dY (F:=F) hBv.p;have hB3:=hBv.gd hg3;have hlt3:=F7 hBv.p hk
      cases hp':fq F (dK F (dO 3 (eR F L) u))
      ·have HE:=aa (show gP F L (fC 2 s)=dK F (dO 3 (eR F L) u) by rw[HU.out];exact LC.gon (jX hL) hBu.p (t:=dK F (dO 3 (eR F L) u)) (by show gZ F (dO 3 (eR F L) u)=_;unfold gZ;rw[aB (by rw[ha];decide),aD hk,hp']))
       go_wp2_with (first
         | (go_at_call 41;with_reducible refine Ny.go (Ny.cast E3 HE.out) (nW hF 2 (gP F L) (by decide) (hB.mono (by omega)) HGE.out (by omega)) fun e9 E9=>?_)
         | (go_at_call 38;with_reducible refine Ny.go E2 (mN hF false hB3.p hp') fun e3 E3=>?_)
         | (go_at_call 67;with_reducible refine Ny.go E1 (gx hF hBv.p) fun e2 E2=>?_)
         | (go_at_call 37;with_reducible refine Ny.go U0 (fe false hF hBv.p [59,38] (by decide) ha) fun e1 E1=>?_)
         | fail)
       try rw[bj]
       first|go_end0|refine bn ?_
       exact⟨rfl,E9.out⟩
      ·have hy:=(jX hL u hBu.p).yy (t:=dK F (dO 3 (eR F L) u)) (by show gZ F (dO 3 (eR F L) u)=_;unfold gZ;rw[aB (by rw[ha];decide),aD hk,hp']);have HE:=aa (show gP F L (fC 2 s)=gP F L (dK F (dO 3 (eR F L) u)) by rw[HU.out];exact LC.goy (jX hL) hBu.p (t:=dK F (dO 3 (eR F L) u)) (by show gZ F (dO 3 (eR F L) u)=_;unfold gZ;rw[aB (by rw[ha];decide),aD hk,hp']));have hqy:q≤(dK F (dO 3 (eR F L) u)).p+1:=aA hqu (bH (bq hy.2));have hgy:=Gd.node0 (k:=3) (s:=dK F (dO 3 (eR F L) u)) (f:=eR F L) (A:=2) (N:=F.length) fun t ht _=>mV hL (by rw[ht];exact hy.1.N)
       go_wp2_with (first
         | (go_at_call 66;with_reducible refine Ny.go E3 (xw hF hL HL hqy ((hBu.gd hy.1).mono (by omega)) hp') fun e9 E9=>?_)
         | (go_at_call 38;with_reducible refine Ny.go E2 (mN hF true hB3.p hp') fun e3 E3=>?_)
         | (go_at_call 67;with_reducible refine Ny.go E1 (gx hF hBv.p) fun e2 E2=>?_)
         | (go_at_call 37;with_reducible refine Ny.go U0 (fe false hF hBv.p [59,38] (by decide) ha) fun e1 E1=>?_)
         | fail)
       refine⟨⟨dK F (dO 3 (eR F L) u),hqy,hBu.gd hy.1,hp',HE.out,E9.out⟩,?_⟩;rw[E9.out.m.pOn,HP.out];have h1:=hy.2;have h2:=hgy.p;have h3:=hgy.N;have h4:=hgv.p;have h5:=hlt3;omega
    ·have hltv:=eh ha (by decide);have hn2:=hBv.next hltv (by omega);have hg3:=dY (F:=F) hn2.p;have hB3:=hn2.gd hg3;have hlt3:(dO 3 (eR F L) u).p<(dK F (dM (dO 3 (eR F L) u))).p:=bA (dH _) hg3.p
     cases hp':fq F (dK F (dM (dO 3 (eR F L) u)))
     ·have HE:=aa (show gP F L (fC 2 s)=dK F (dM (dO 3 (eR F L) u)) by rw[HU.out];exact LC.gon (jX hL) hBu.p (t:=dK F (dM (dO 3 (eR F L) u))) (by show gZ F (dO 3 (eR F L) u)=_;unfold gZ;rw[aD ha,hp']))
      go_wp2_with (first
        | (go_at_call 41;with_reducible refine Ny.go (Ny.cast E3 HE.out) (nW hF 2 (gP F L) (by decide) (hB.mono (by omega)) HGE.out (by omega)) fun e9 E9=>?_)
        | (go_at_call 38;with_reducible refine Ny.go E2 (mN hF false hB3.p hp') fun e3 E3=>?_)
        | (go_at_call 67;with_reducible refine Ny.go E1 (gx hF hn2.p) fun e2 E2=>?_)
        | (go_at_call 37;with_reducible refine Ny.inc U0 (by omega) (fe true hF hBv.p [59,38] (by decide) ha) fun e1 ge1 de1 ke1 ve1 E1=>?_)
        | fail)
      try rw[bj]
      first|go_end0|refine bn ?_
      exact⟨rfl,E9.out⟩
     ·have hy:=(jX hL u hBu.p).yy (t:=dK F (dM (dO 3 (eR F L) u))) (by show gZ F (dO 3 (eR F L) u)=_;unfold gZ;rw[aD ha,hp']);have HE:=aa (show gP F L (fC 2 s)=gP F L (dK F (dM (dO 3 (eR F L) u))) by rw[HU.out];exact LC.goy (jX hL) hBu.p (t:=dK F (dM (dO 3 (eR F L) u))) (by show gZ F (dO 3 (eR F L) u)=_;unfold gZ;rw[aD ha,hp']));have hqy:q≤(dK F (dM (dO 3 (eR F L) u))).p+1:=aA hqu (bH (bq hy.2));have hgy:=Gd.node0 (k:=3) (s:=dK F (dM (dO 3 (eR F L) u))) (f:=eR F L) (A:=2) (N:=F.length) fun t ht _=>mV hL (by rw[ht];exact hy.1.N)
      go_wp2_with (first
        | (go_at_call 66;with_reducible refine Ny.go E3 (xw hF hL HL hqy ((hBu.gd hy.1).mono (by omega)) hp') fun e9 E9=>?_)
        | (go_at_call 38;with_reducible refine Ny.go E2 (mN hF true hB3.p hp') fun e3 E3=>?_)
        | (go_at_call 67;with_reducible refine Ny.go E1 (gx hF hn2.p) fun e2 E2=>?_)
        | (go_at_call 37;with_reducible refine Ny.inc U0 (by omega) (fe true hF hBv.p [59,38] (by decide) ha) fun e1 ge1 de1 ke1 ve1 E1=>?_)
        | fail)
      refine⟨⟨dK F (dM (dO 3 (eR F L) u)),hqy,hBu.gd hy.1,hp',HE.out,E9.out⟩,?_⟩;rw[E9.out.m.pOn,HP.out];have h1:=hy.2;have h2:=hgy.p;have h3:=hgy.N;have h4:=hgv.p;have h5:=hlt3;omega
end
theorem F5 {g:Nat} {fv:Value} {F:List Lf} (hF:FB F):∀n q,F.length+1≤n+q→sA g fv F (wU F n) q
  | 0,q,hn=>fun s W hq hB hb h=>by have:=hB.p;omega
  | n+1,q,hn=>fun s W hq hB hb h=>Jv (q:=q+1) hF (jp F n) (F5 hF n (q+1) (by omega)) (by omega) hB hb h
theorem EB {F:List Lf} {k:Nat} {x:Lf} (hx:F[k]? = some x):(tA F).take k++[uS x]=(tA F).take (k+1):=by
  unfold tA;rw[List.take_add_one,bc,hx];rfl
def NC (v:Value):Nat:=match v with | .int _ z=>if (z==2)=true then 1 else 0|_=>0
theorem EJ (F:List Lf) (fv:Value) (w:World) (hF:FB F) (hR:Rd w w.heap.size 4 fv F.length (iF F)) :
    Calls Tryz.prog 14 #[fv] w fun e w'=>∃v,e=.returned v∧w'.ownsRow w.heap.size 56 4 v (eP F).l.length (gQ (eP F).l)∧Below w.heap.size w w':=by
  obtain⟨A,c,rfl⟩:=hR.formm;have hn:=hF.n;have HR:=aa hR;clear hR;go_enter Tryz.func14,Tryz.ntmps14;go_wp2_with fail;go_loopw [3,4] (fun sv iv wr=>∃k:Nat,k≤F.length∧iv=.int .i64 k∧sv=.string ⟨((tA F).take k).toArray⟩∧Below w.heap.size w wr) (fun sv iv _=>F.length-(intOf iv).toNat)
  case atStart=>exact⟨0,bv _,rfl,rfl,aC _ _⟩
  case round=>
    obtain⟨k,hk,rfl,rfl,hb⟩:=hrel;by_cases hlt:k<F.length
    ·have u1:(k:Int)<(F.length:Int):=by omega
     have u2:(0:Int)≤(k:Int):=by omega
     obtain⟨x,hx⟩:∃x,F[k]? = some x:=⟨_,ax hlt⟩;have hxl:=hF.t x (aO hx);obtain⟨g1,o1,rfl,y0,y1,y2,y3⟩:=jl (HR.out.keep hb (au _)) hx rfl;have HS:=aa (show ByteArray.mk ((tA F).take k).toArray++ByteArray.mk [uS x].toArray=⟨((tA F).take (k+1)).toArray⟩ by rw[gY,EB hx]);have HB:=aa hb;have hs9:=hb.size;clear hb hx;go_wp2_with (
       (go_at_call 35;refine(IR x _ (by omega)).mono ?_;rintro e w2 ⟨rfl,hb2⟩;have H2:=aa (HB.out.trans (hb2.mono hs9));clear hb2))
     exact⟨⟨k+1,by omega,by go_num,congrArg Value.string HS.out,H2.out⟩,by simp[intOf]<;>omega⟩
    ·obtain rfl:k=F.length:=by omega
     have HB:=aa hb;rw[show (tA F).take F.length=tA F from bR (by rw[pT];exact au _)];clear hb;go_upto_region 7 with fail
     refine ki fun W0 hb0 k0 hs0=>?_
     obtain⟨g,hg⟩:∃g,g=wr.heap.size:=⟨_,rfl⟩;rw[←hg] at k0 ⊢;have hwg:w.heap.size≤g:=by rw[hg];exact HB.out.size
     have hBW:=HB.out.trans (hb0.mono HB.out.size);have M0:Nk g (.slice A F.length c) F (iW 0) W0:=⟨⟨.slice none 0 0,k0,Ca _ _ _ _⟩,(HR.out.keep hBW (au _)).mono hwg⟩;have H0:=aa (Ny.start M0);have HW:=aa hBW;clear k0 hb0 hs0 M0 hg hBW;have HLr:=F5 (g:=g) (fv:=.slice A F.length c) hF (F.length+1) 0 (by omega);have hL:=jp F (F.length+1);obtain⟨L,hLe⟩:∃L,L=wU F (F.length+1):=⟨_,rfl⟩;rw[←hLe] at HLr hL;have hB0:Bd F 100 (iW 0):=⟨bv _,by show 0≤_;omega,by show 0≤200;omega⟩;have hi:Bd F 1 (fC 1 (iW 0)):=⟨bv _,by show (([]:List Nd)++[_]).length≤46*0+1;simp,by show 0≤200;omega⟩;have hg0:=mT hL _ (fC 1 (iW 0),false) rfl hi.p;obtain⟨f,hf⟩:∃f:Ps→Ps,f=fun s=>(g9 F L (s,false)).1:=⟨_,rfl⟩
     obtain⟨T,hT⟩:∃T,T=f (fC 1 (iW 0)):=⟨_,rfl⟩;have hPg:Pg F L T (fC 1 (iW 0)) false:=⟨hi.p,hi.d,by show 1+4≤16*0+5;omega,by rw[hT,hf]⟩;have HGE:=aa (show Gd F.length 4 (fC 1 (iW 0)) (f (fC 1 (iW 0))) by rw[hf];exact hg0.1);have HX:=aa (show eP F=dO 1 f (iW 0) by rw[hf,hLe];rfl);have HT:=aa hT;clear hg0 hf hT hLe;go_wp2_with (
       (go_at_call 36;with_reducible refine Ny.go H0 (lh hF 1 (by decide) hB0) fun a1 A1=>?_))
     go_loopw [7] (fun v wr=>∃(u:Ps) (b:Bool) (z:Int),v=.int .i64 z∧(z==2)=b∧Pg F L T u b∧Ny g (.slice A F.length c) F W0 u wr) (fun v wr=>2*F.length+2-(2*pOn g wr+NC v))
     case atStart=>exact⟨_,false,0,rfl,rfl,hPg,A1.out⟩
     case round=>
       obtain⟨u,b,z,rfl,hzb,hPu,hz⟩:=hrel;have U0:=aa hz;have HP:=aa hz.m.pOn;have HS:=aa hPu;have HZB:=aa hzb;have hBu:=hPu.bd;have hup:=hPu.p;have tz:(z != 2) = !b:=by rw[bne,hzb]
       obtain⟨gl,y3,_⟩:=Ny.inc3 U0;clear hz hPu hzb;by_cases hlt:u.p<F.length
       ·have u1:(u.p:Int)<(F.length:Int):=by omega
        cases hc:dQ F [110] u
        ·cases b
         ·replace tz:(z != 2)=true:=tz
          cases hp:fq F u;have HG:=aa (HS.out.step hL (t:=ez 17 u) (b':=false) (by unfold fJ;simp only[hc,hp,hlt,Bool.and_false,bQ,bp,aI]))
          go_wp2_with (first
            | (go_at_call 40;with_reducible refine Ny.go E2 (qo hF (k:=17) (by decide) (hBu.mono (by omega)) hlt) fun e3 E3=>?_)
            | (go_at_call 38;with_reducible refine Ny.go E1 (mN hF false hup hp) fun e2 E2=>?_)
            | (go_at_call 37;with_reducible refine Ny.go U0 (fe false hF hup [110] (by decide) hc) fun e1 E1=>?_)
            | fail)
          refine⟨⟨_,false,17,rfl,rfl,HG.out.1,E3.out⟩,?_⟩
          rotate_left
          have HG:=aa (HS.out.step hL (t:=dO 2 L u) (b':=true) (by unfold fJ;simp only[hc,hp,Bool.not_false,cK,Bool.and_self,bQ,bp,aI]))
          go_wp2_with (first
            | (go_at_call 39;with_reducible refine Ny.go E2 (Bc HLr (bv _) (hBu.mono (by omega)) hp) fun e3 E3=>?_)
            | (go_at_call 38;with_reducible refine Ny.go E1 (mN hF true hup hp) fun e2 E2=>?_)
            | (go_at_call 37;with_reducible refine Ny.go U0 (fe false hF hup [110] (by decide) hc) fun e1 E1=>?_)
            | fail)
          refine⟨⟨_,true,2,rfl,rfl,HG.out.1,E3.out⟩,?_⟩
          rotate_left
          all_goals (
            rw[E3.out.m.pOn,HP.out];have h1:=HG.out.2;have h2:=HG.out.1.p;have h3:=HZB.out;unfold iL at h1;simp only[NC,h3];simp only[aI,bQ,bp] at h1 ⊢
            first
              | omega
              | (rw[aD (show ((2:Int)==2)=true from rfl)];omega)
              | (cases b<;>simp only[aI,bQ,bp] at h1 ⊢ <;> omega))
         ·replace tz:(z != 2)=false:=tz;have HG:=aa (HS.out.step hL (t:=ez 17 u) (b':=false) (by unfold fJ;simp only[hc,hlt,Bool.not_true,dF,bQ,bp,aI]))
          go_wp2_with (first
            | (go_at_call 40;with_reducible refine Ny.go E1 (qo hF (k:=17) (by decide) (hBu.mono (by omega)) hlt) fun e3 E3=>?_)
            | (go_at_call 37;with_reducible refine Ny.go U0 (fe false hF hup [110] (by decide) hc) fun e1 E1=>?_)
            | fail)
          refine⟨⟨_,false,17,rfl,rfl,HG.out.1,E3.out⟩,?_⟩;rw[E3.out.m.pOn,HP.out];have h1:=HG.out.2;have h2:=HG.out.1.p;have h3:=HZB.out;unfold iL at h1;simp only[NC,h3];simp only[aI,bQ,bp] at h1 ⊢
          first
            | omega
            | (rw[aD (show ((2:Int)==2)=true from rfl)];omega)
            | (cases b<;>simp only[aI,bQ,bp] at h1 ⊢ <;> omega)
        ·clear tz;have HG:=aa (HS.out.step hL (t:=dM u) (b':=b) (by unfold fJ;simp only[hc,bQ]));go_wp2_with (
           (go_at_call 37;with_reducible refine Ny.inc U0 (by omega) (fe true hF hup [110] (by decide) hc) fun e1 ge1 de1 ke1 ve1 E1=>?_))
         refine⟨⟨_,b,z,rfl,HZB.out,HG.out.1,E1.out⟩,?_⟩;rw[E1.out.m.pOn,HP.out];have h1:=HG.out.2;have h2:=HG.out.1.p;have h3:=HZB.out;unfold iL at h1;simp only[NC,h3];simp only[aI,bQ,bp] at h1 ⊢
         first
           | omega
           | (rw[aD (show ((2:Int)==2)=true from rfl)];omega)
           | (cases b<;>simp only[aI,bQ,bp] at h1 ⊢ <;> omega)
       ·have u1:¬(u.p:Int)<(F.length:Int):=by omega
        have HE:=aa (show f (fC 1 (iW 0))=u by rw[←HT.out,←HS.out.t,yp hL hup hlt]);clear tz;go_wp2_with (
          (go_at_call 41;with_reducible refine Ny.go (Ny.cast U0 HE.out) (nW hF 1 f (by decide) hB0 HGE.out (by omega)) fun e9 E9=>?_
           obtain⟨lv,kb,ko⟩:=E9.out.m.w;have d2:=kb.cell 2;have H9:=aa (ac E9.out.f.hb ko);have gl9:=kb.lt;clear kb ko))
        go_ret;exact⟨_,rfl,fK (by rw[HX.out];exact H9.out.2) hwg,HW.out.trans (H9.out.1.mono hwg)⟩
end
end Go.Proofs.YtcagfamdoaoimaaGreatDoor
