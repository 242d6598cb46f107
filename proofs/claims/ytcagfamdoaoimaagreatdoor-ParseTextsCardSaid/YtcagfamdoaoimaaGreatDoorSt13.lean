/- The reference's parser: pipes and lists. PRINTED by gen_je13.py. -/
import Derived.Test.YtcagfamdoaoimaaGreatDoorJd13
import Derived.Test.YtcagfamdoaoimaaGreatDoorQc13
import Derived.Test.YtcagfamdoaoimaaGreatDoorWs13
set_option linter.unusedVariables false
set_option linter.unusedSimpArgs false
set_option maxRecDepth 100000
set_option maxHeartbeats 8000000
namespace Go.Proofs.YtcagfamdoaoimaaGreatDoor
section
open Go.RowKit
theorem F7 {F:List Lf} {s:Ps} (hs:s.p≤F.length) (h:dO F [110] s=true):s.p<(dJ F s).p:=by
  have h1:=ek h (by decide);have h2:dJ F s=dJ F (dL s):=LC.goy (lP (F:=F)) hs (by rw[aE h]);have h3:=(dZ (F:=F) (s:=dL s) h1).p;rw[h2];exact bA (dj _) h3
section
variable {g:Nat} {fv:Value} {F:List Lf} {L:Ps→Ps} {q:Nat} {s:Ps} {W:World} (hF:FB F) (hL:GL F L) (HL:sB g fv F L q)
include hF hL HL
theorem Kq (hq:q≤s.p+1) (hB:Bd F 23 s) (hb:fQ F s=true) (h:Nk g fv F s W) :
    Calls Tryz.prog 112 #[.pointer (some ⟨g,0,none⟩)] W fun e w'=>e=.returned (.tuple #[])∧Ny g fv F W (kq F L s) w':=by
  have hn:=hF.n;have hp:=hB.p;have H0:=aa (Ny.start h);have HX:=aa (show kq F L s=dN 4 (lm F L) s by unfold kq;rw[aE hb]);have hi:=hB.inn 4;have hg1:=gD (F:=F) (cs:=[33]) (by decide) hi.p;have hB1:=hi.gd hg1;have hq1:q≤(eB F [33] (fB 4 s)).p+1:=aA hq (bE hg1.p);have hg2:=wS hL hB1.p;have hB2:=hB1.gd hg2;have hq2:q≤(i6 F L (eB F [33] (fB 4 s))).p+1:=aA hq1 (bE hg2.p);have HGE:=aa (uh hL hi.p);have hi5:(fB 4 s).p≤100000:=by show s.p≤_;omega
  clear h
  cases h1:dO F [33] (fB 4 s)
  case' false=>have HK:=aa (show eB F [33] (fB 4 s)=fB 4 s from pD h1)
  case' true=>have HK:=aa (show eB F [33] (fB 4 s)=dL (fB 4 s) from lW h1)
  all_goals (
    go_enter Tryz.func112,Tryz.ntmps112
    go_wp2_with (first
      | (go_at_call 143;with_reducible refine Ny.go (Ny.cast A2 HK.out) (vL hF hL HL hq1 (hB1.mono (by omega))) fun a3 A3=>?_)
      | (go_at_call 37;with_reducible refine Ny.go A1 (fi false hF hi.p [33] (by decide) h1) fun a2 A2=>?_)
      | (go_at_call 37;with_reducible refine Ny.inc A1 (hi5) (fi true hF hi.p [33] (by decide) h1) fun a2 ga2 da2 ka2 va2 A2=>?_)
      | (go_at_call 36;with_reducible refine Ny.go H0 (kV hF 4 (by decide) (hB.mono (by omega))) fun a1 A1=>?_)
      | fail)
    go_loopw [] (fun wr=>∃u:Ps,q≤u.p+1∧Bd F 26 u∧(eQ F.length (fun s=>if dO F [124] s=true then (i6 F L (dJ F (dL s)),true) else (s,false))) u=(eQ F.length (fun s=>if dO F [124] s=true then (i6 F L (dJ F (dL s)),true) else (s,false))) (i6 F L (eB F [33] (fB 4 s)))∧Ny g fv F W u wr) (fun wr=>F.length-pOn g wr)
    case atStart=>exact⟨_,hq2,hB2.mono (by omega),rfl,A3.out⟩
    case round=>
      obtain⟨u,hqu,hBu,hlu,hz⟩:=hrel;have U0:=aa hz;have HU:=aa hlu;have HP:=aa hz.m.pOn;have hup:=hBu.p;clear hz hlu
      cases hc:dO F [124] u
      ·have HE:=aa (show lm F L (fB 4 s)=u by unfold lm;exact HU.out.symm.trans (LC.gon (mX hL) hBu.p (t:=u) (by show (if _ then _ else _)=_;rw[aB (by rw[hc];decide)])))
       go_wp2_with (first
         | (go_at_call 41;with_reducible refine Ny.go (Ny.cast E1 HE.out) (od hF 4 (lm F L) (by decide) (hB.mono (by omega)) HGE.out (by omega)) fun e2 E2=>?_)
         | (go_at_call 37;with_reducible refine Ny.go U0 (fi false hF hup [124] (by decide) hc) fun e1 E1=>?_)
         | fail)
       first|go_end0|refine az (aI rfl _ _ _) rfl ?_
       exact⟨rfl,by rw[HX.out];exact E2.out⟩
      ·have hltu:=ek hc (by decide);have hn2:=hBu.next hltu (by omega);have hg3:=dZ (F:=F) hn2.p;have hB3:=hn2.gd hg3;have hq3:q≤(dJ F (dL u)).p+1:=aA hqu (bE (aA (bY _) hg3.p));have hy:=(mX hL u hBu.p).yy (t:=i6 F L (dJ F (dL u))) (by rw[aE hc]);have HE:=aa ((LC.goy (mX hL) hBu.p (t:=i6 F L (dJ F (dL u))) (by show (if _ then _ else _)=_;rw[aE hc])).symm.trans HU.out)
       go_wp2_with (first
         | (go_at_call 143;with_reducible refine Ny.go E2 (vL hF hL HL hq3 (hB3.mono (by omega))) fun e3 E3=>?_)
         | (go_at_call 67;with_reducible refine Ny.go E1 (gC hF hn2.p) fun e2 E2=>?_)
         | (go_at_call 37;with_reducible refine Ny.inc U0 (by omega) (fi true hF hup [124] (by decide) hc) fun e1 ge1 de1 ke1 ve1 E1=>?_)
         | fail)
       refine⟨⟨_,aA hqu (bE (bj hy.2)),hBu.gd hy.1,HE.out,E3.out⟩,?_⟩;rw[E3.out.m.pOn,HP.out]
       have:=hy.2
       have:=hy.1.N
       omega)
theorem xh (hq:q≤s.p+1) (hB:Bd F 20 s) (hb:fQ F s=true) (h:Nk g fv F s W) :
    Calls Tryz.prog 66 #[.pointer (some ⟨g,0,none⟩)] W fun e w'=>e=.returned (.tuple #[])∧Ny g fv F W (dN 3 (ff F L) s) w':=by
  have hn:=hF.n;have hp:=hB.p;have H0:=aa (Ny.start h);have hi:=hB.inn 3;have hb3:fQ F (fB 3 s)=true:=hb;have hqi:q≤(fB 3 s).p+1:=hq;have hg2:=wR hL hi.p;have hB2:=hi.gd hg2;have hq2:q≤(kq F L (fB 3 s)).p+1:=aA hq (bE hg2.p);have HGE:=aa (pL hL hi.p);clear h;go_enter Tryz.func66,Tryz.ntmps66
  go_wp2_with (first
    | (go_at_call 112;with_reducible refine Ny.go A1 (Kq hF hL HL hqi (hi.mono (by omega)) hb3) fun a3 A3=>?_)
    | (go_at_call 36;with_reducible refine Ny.go H0 (kV hF 3 (by decide) (hB.mono (by omega))) fun a1 A1=>?_)
    | fail)
  go_loopw [] (fun wr=>∃u:Ps,q≤u.p+1∧Bd F 26 u∧(eQ F.length (fun s=>if dO F [97,111] s=true then (kq F L (dJ F (dL s)),true) else (s,false))) u=(eQ F.length (fun s=>if dO F [97,111] s=true then (kq F L (dJ F (dL s)),true) else (s,false))) (kq F L (fB 3 s))∧Ny g fv F W u wr) (fun wr=>F.length-pOn g wr)
  case atStart=>exact⟨_,hq2,hB2.mono (by omega),rfl,A3.out⟩
  case round=>
    obtain⟨u,hqu,hBu,hlu,hz⟩:=hrel;have U0:=aa hz;have HU:=aa hlu;have HP:=aa hz.m.pOn;have hup:=hBu.p;clear hz hlu
    cases hc:dO F [97,111] u
    ·have HE:=aa (show ff F L (fB 3 s)=u by unfold ff;exact HU.out.symm.trans (LC.gon (uF hL) hBu.p (t:=u) (by show (if _ then _ else _)=_;rw[aB (by rw[hc];decide)])))
     go_wp2_with (first
       | (go_at_call 41;with_reducible refine Ny.go (Ny.cast E1 HE.out) (od hF 3 (ff F L) (by decide) (hB.mono (by omega)) HGE.out (by omega)) fun e2 E2=>?_)
       | (go_at_call 37;with_reducible refine Ny.go U0 (fi false hF hup [97,111] (by decide) hc) fun e1 E1=>?_)
       | fail)
     first|go_end0|refine az (aI rfl _ _ _) rfl ?_
     exact⟨rfl,E2.out⟩
    ·have hltu:=ek hc (by decide);have hn2:=hBu.next hltu (by omega);have hg3:=dZ (F:=F) hn2.p;have hB3:=hn2.gd hg3;have hq3:q≤(dJ F (dL u)).p+1:=aA hqu (bE (aA (bY _) hg3.p));have hy:=(uF hL u hBu.p).yy (t:=kq F L (dJ F (dL u))) (by rw[aE hc]);have HE:=aa ((LC.goy (uF hL) hBu.p (t:=kq F L (dJ F (dL u))) (by show (if _ then _ else _)=_;rw[aE hc])).symm.trans HU.out)
     cases hd:fQ F (dJ F (dL u))
     case' false=>have HM:=aa (show kq F L (dJ F (dL u))=eR (dJ F (dL u)) by unfold kq;rw[aB (by rw[hd];decide)])
     all_goals (
       go_wp2_with (first
         | (go_at_call 112;with_reducible refine Ny.go E3 (Kq hF hL HL hq3 (hB3.mono (by omega)) hd) fun e4 E4=>?_)
         | (go_at_call 113;with_reducible refine Ny.go E3 (nP hF (hB3.mono (by omega))) fun e4 E4=>?_)
         | (go_at_call 38;with_reducible refine Ny.go E2 (mW hF _ hB3.p hd) fun e3 E3=>?_)
         | (go_at_call 67;with_reducible refine Ny.go E1 (gC hF hn2.p) fun e2 E2=>?_)
         | (go_at_call 37;with_reducible refine Ny.inc U0 (by omega) (fi true hF hup [97,111] (by decide) hc) fun e1 ge1 de1 ke1 ve1 E1=>?_)
         | fail))
     ·exact⟨⟨_,aA hqu (bE (bj hy.2)),hBu.gd hy.1,HE.out,(Ny.cast E4 HM.out).out⟩,by
        rw[(Ny.cast E4 HM.out).out.m.pOn,HP.out]
        have:=hy.2
        have:=hy.1.N
        omega⟩
     ·exact⟨⟨_,aA hqu (bE (bj hy.2)),hBu.gd hy.1,HE.out,E4.out⟩,by
        rw[E4.out.m.pOn,HP.out]
        have:=hy.2
        have:=hy.1.N
        omega⟩
theorem Js (hq:q≤s.p+1) (hB:Bd F 19 s) (hb:fQ F s=true) (h:Nk g fv F s W) :
    Calls Tryz.prog 39 #[.pointer (some ⟨g,0,none⟩)] W fun e w'=>e=.returned (.tuple #[])∧Ny g fv F W (dN 2 (mE F L) s) w':=by
  have hn:=hF.n;have hp:=hB.p;have H0:=aa (Ny.start h);have hi:=hB.inn 2;have hb2:fQ F (fB 2 s)=true:=hb;have hqi:q≤(fB 2 s).p+1:=hq;have HGE:=aa (Gw hL hi.p);clear h;go_enter Tryz.func39,Tryz.ntmps39
  go_wp2_with (first
    | (go_at_call 66;with_reducible refine Ny.go A1 (xh hF hL HL hqi (hi.mono (by omega)) hb2) fun a3 A3=>?_)
    | (go_at_call 36;with_reducible refine Ny.go H0 (kV hF 2 (by decide) (hB.mono (by omega))) fun a1 A1=>?_)
    | fail)
  go_loopw [] (fun wr=>∃u:Ps,q≤u.p+1∧Bd F 20 u∧fQ F u=true∧mE F L (fB 2 s)=mE F L u∧Ny g fv F W (dN 3 (ff F L) u) wr) (fun wr=>F.length-pOn g wr)
  case atStart=>exact⟨fB 2 s,hqi,hi,hb2,rfl,A3.out⟩
  case round=>
    obtain⟨u,hqu,hBu,hpu,hlu,hz⟩:=hrel;have U0:=aa hz;have HU:=aa hlu;have HP:=aa hz.m.pOn;have hup:=hBu.p;clear hz hlu;have hgv:=Gd.node0 (k:=3) (s:=u) (f:=ff F L) (A:=2) (N:=F.length) fun t ht _=>pL hL (by rw[ht];exact hBu.p)
    have hBv:=hBu.gd hgv;have hvp:=hBv.p
    cases ha:dO F [59,38] (dN 3 (ff F L) u)
    ·cases hk:dO F [110] (dN 3 (ff F L) u)
     ·obtain⟨hz0,hz1⟩:=Kt hBv.p hk;have HZ:=aa hz1.symm;clear hz1;have HE:=aa (show mE F L (fB 2 s)=dN 3 (ff F L) u by rw[HU.out];exact LC.gon (lp hL) hBu.p (t:=dN 3 (ff F L) u) (by show iX F (dN 3 (ff F L) u)=_;unfold iX;rw[aB (by rw[ha];decide),aB (by rw[hk];decide)]))
      go_wp2_with (first
        | (go_at_call 41;with_reducible refine Ny.go (Ny.cast (Ny.cast E2 HZ.out) HE.out) (od hF 2 (mE F L) (by decide) (hB.mono (by omega)) HGE.out (by omega)) fun e9 E9=>?_)
        | (go_at_call 67;with_reducible refine Ny.go E1 (gC hF hBv.p) fun e2 E2=>?_)
        | (go_at_call 37;with_reducible refine Ny.go U0 (fi false hF hBv.p [59,38] (by decide) ha) fun e1 E1=>?_)
        | fail)
      try rw[bp]
      first|go_end0|refine az (aI rfl _ _ _) rfl ?_
      exact⟨rfl,E9.out⟩
     ·have hz0:=Ks hBv.p hk;have hg3:=dZ (F:=F) hBv.p;have hB3:=hBv.gd hg3;have hlt3:=F7 hBv.p hk
      cases hp':fQ F (dJ F (dN 3 (ff F L) u))
      ·have HE:=aa (show mE F L (fB 2 s)=dJ F (dN 3 (ff F L) u) by rw[HU.out];exact LC.gon (lp hL) hBu.p (t:=dJ F (dN 3 (ff F L) u)) (by show iX F (dN 3 (ff F L) u)=_;unfold iX;rw[aB (by rw[ha];decide),aE hk,hp']))
       go_wp2_with (first
         | (go_at_call 41;with_reducible refine Ny.go (Ny.cast E3 HE.out) (od hF 2 (mE F L) (by decide) (hB.mono (by omega)) HGE.out (by omega)) fun e9 E9=>?_)
         | (go_at_call 38;with_reducible refine Ny.go E2 (mW hF false hB3.p hp') fun e3 E3=>?_)
         | (go_at_call 67;with_reducible refine Ny.go E1 (gC hF hBv.p) fun e2 E2=>?_)
         | (go_at_call 37;with_reducible refine Ny.go U0 (fi false hF hBv.p [59,38] (by decide) ha) fun e1 E1=>?_)
         | fail)
       try rw[bp]
       first|go_end0|refine az (aI rfl _ _ _) rfl ?_
       exact⟨rfl,E9.out⟩
      ·have hy:=(lp hL u hBu.p).yy (t:=dJ F (dN 3 (ff F L) u)) (by show iX F (dN 3 (ff F L) u)=_;unfold iX;rw[aB (by rw[ha];decide),aE hk,hp']);have HE:=aa (show mE F L (fB 2 s)=mE F L (dJ F (dN 3 (ff F L) u)) by rw[HU.out];exact LC.goy (lp hL) hBu.p (t:=dJ F (dN 3 (ff F L) u)) (by show iX F (dN 3 (ff F L) u)=_;unfold iX;rw[aB (by rw[ha];decide),aE hk,hp']));have hqy:q≤(dJ F (dN 3 (ff F L) u)).p+1:=aA hqu (bE (bj hy.2));have hgy:=Gd.node0 (k:=3) (s:=dJ F (dN 3 (ff F L) u)) (f:=ff F L) (A:=2) (N:=F.length) fun t ht _=>pL hL (by rw[ht];exact hy.1.N)
       go_wp2_with (first
         | (go_at_call 66;with_reducible refine Ny.go E3 (xh hF hL HL hqy ((hBu.gd hy.1).mono (by omega)) hp') fun e9 E9=>?_)
         | (go_at_call 38;with_reducible refine Ny.go E2 (mW hF true hB3.p hp') fun e3 E3=>?_)
         | (go_at_call 67;with_reducible refine Ny.go E1 (gC hF hBv.p) fun e2 E2=>?_)
         | (go_at_call 37;with_reducible refine Ny.go U0 (fi false hF hBv.p [59,38] (by decide) ha) fun e1 E1=>?_)
         | fail)
       refine⟨⟨dJ F (dN 3 (ff F L) u),hqy,hBu.gd hy.1,hp',HE.out,E9.out⟩,?_⟩;rw[E9.out.m.pOn,HP.out];have h1:=hy.2;have h2:=hgy.p;have h3:=hgy.N;have h4:=hgv.p;have h5:=hlt3;omega
    ·have hltv:=ek ha (by decide);have hn2:=hBv.next hltv (by omega);have hg3:=dZ (F:=F) hn2.p;have hB3:=hn2.gd hg3;have hlt3:(dN 3 (ff F L) u).p<(dJ F (dL (dN 3 (ff F L) u))).p:=bA (dj _) hg3.p
     cases hp':fQ F (dJ F (dL (dN 3 (ff F L) u)))
     ·have HE:=aa (show mE F L (fB 2 s)=dJ F (dL (dN 3 (ff F L) u)) by rw[HU.out];exact LC.gon (lp hL) hBu.p (t:=dJ F (dL (dN 3 (ff F L) u))) (by show iX F (dN 3 (ff F L) u)=_;unfold iX;rw[aE ha,hp']))
      go_wp2_with (first
        | (go_at_call 41;with_reducible refine Ny.go (Ny.cast E3 HE.out) (od hF 2 (mE F L) (by decide) (hB.mono (by omega)) HGE.out (by omega)) fun e9 E9=>?_)
        | (go_at_call 38;with_reducible refine Ny.go E2 (mW hF false hB3.p hp') fun e3 E3=>?_)
        | (go_at_call 67;with_reducible refine Ny.go E1 (gC hF hn2.p) fun e2 E2=>?_)
        | (go_at_call 37;with_reducible refine Ny.inc U0 (by omega) (fi true hF hBv.p [59,38] (by decide) ha) fun e1 ge1 de1 ke1 ve1 E1=>?_)
        | fail)
      try rw[bp]
      first|go_end0|refine az (aI rfl _ _ _) rfl ?_
      exact⟨rfl,E9.out⟩
     ·have hy:=(lp hL u hBu.p).yy (t:=dJ F (dL (dN 3 (ff F L) u))) (by show iX F (dN 3 (ff F L) u)=_;unfold iX;rw[aE ha,hp']);have HE:=aa (show mE F L (fB 2 s)=mE F L (dJ F (dL (dN 3 (ff F L) u))) by rw[HU.out];exact LC.goy (lp hL) hBu.p (t:=dJ F (dL (dN 3 (ff F L) u))) (by show iX F (dN 3 (ff F L) u)=_;unfold iX;rw[aE ha,hp']));have hqy:q≤(dJ F (dL (dN 3 (ff F L) u))).p+1:=aA hqu (bE (bj hy.2));have hgy:=Gd.node0 (k:=3) (s:=dJ F (dL (dN 3 (ff F L) u))) (f:=ff F L) (A:=2) (N:=F.length) fun t ht _=>pL hL (by rw[ht];exact hy.1.N)
      go_wp2_with (first
        | (go_at_call 66;with_reducible refine Ny.go E3 (xh hF hL HL hqy ((hBu.gd hy.1).mono (by omega)) hp') fun e9 E9=>?_)
        | (go_at_call 38;with_reducible refine Ny.go E2 (mW hF true hB3.p hp') fun e3 E3=>?_)
        | (go_at_call 67;with_reducible refine Ny.go E1 (gC hF hn2.p) fun e2 E2=>?_)
        | (go_at_call 37;with_reducible refine Ny.inc U0 (by omega) (fi true hF hBv.p [59,38] (by decide) ha) fun e1 ge1 de1 ke1 ve1 E1=>?_)
        | fail)
      refine⟨⟨dJ F (dL (dN 3 (ff F L) u)),hqy,hBu.gd hy.1,hp',HE.out,E9.out⟩,?_⟩;rw[E9.out.m.pOn,HP.out];have h1:=hy.2;have h2:=hgy.p;have h3:=hgy.N;have h4:=hgv.p;have h5:=hlt3;omega
end
theorem F5 {g:Nat} {fv:Value} {F:List Lf} (hF:FB F):∀n q,F.length+1≤n+q→sB g fv F (wM F n) q
  | 0,q,hn=>fun s W hq hB hb h=>by have:=hB.p;omega
  | n+1,q,hn=>fun s W hq hB hb h=>Js (q:=q+1) hF (lT F n) (F5 hF n (q+1) (by omega)) (by omega) hB hb h
theorem EB {F:List Lf} {k:Nat} {x:Lf} (hx:F[k]? = some x):(tj F).take k++[uL x]=(tj F).take (k+1):=by
  unfold tj;rw[List.take_add_one,bq,hx];rfl
def MS (v:Value):Nat:=match v with | .int _ z=>if (z==2)=true then 1 else 0|_=>0
theorem My (F:List Lf) (fv:Value) (w:World) (hF:FB F) (hR:Rd w w.heap.size 4 fv F.length (iZ F)) :
    Calls Tryz.prog 14 #[fv] w fun e w'=>∃v,e=.returned v∧w'.ownsRow w.heap.size 56 4 v (fP F).l.length (gz (fP F).l)∧Below w.heap.size w w':=by
  obtain⟨A,c,rfl⟩:=hR.formm;have hn:=hF.n;have HR:=aa hR;clear hR;go_enter Tryz.func14,Tryz.ntmps14;go_wp2_with fail;go_loopw [3,4] (fun sv iv wr=>∃k:Nat,k≤F.length∧iv=.int .i64 k∧sv=.string ⟨((tj F).take k).toArray⟩∧Below w.heap.size w wr) (fun sv iv _=>F.length-(intOf iv).toNat)
  case atStart=>exact⟨0,bK _,rfl,rfl,aD _ _⟩
  case round=>
    obtain⟨k,hk,rfl,rfl,hb⟩:=hrel;by_cases hlt:k<F.length
    ·have u1:(k:Int)<(F.length:Int):=by omega
     have u2:(0:Int)≤(k:Int):=by omega
     obtain⟨x,hx⟩:∃x,F[k]? = some x:=⟨_,ax hlt⟩;have hxl:=hF.t x (aW hx);obtain⟨g1,o1,rfl,y0,y1,y2,y3⟩:=jn (HR.out.keep hb (an _)) hx rfl;have HS:=aa (show ByteArray.mk ((tj F).take k).toArray++ByteArray.mk [uL x].toArray=⟨((tj F).take (k+1)).toArray⟩ by rw[ia,EB hx]);have HB:=aa hb;have hs9:=hb.size;clear hb hx;go_wp2_with (
       (go_at_call 35;refine(IO x _ (by omega)).mono ?_;rintro e w2 ⟨rfl,hb2⟩;have H2:=aa (HB.out.trans (hb2.mono hs9));clear hb2))
     exact⟨⟨k+1,by omega,by go_num,congrArg Value.string HS.out,H2.out⟩,by simp[intOf]<;>omega⟩
    ·obtain rfl:k=F.length:=by omega
     have HB:=aa hb;rw[show (tj F).take F.length=tj F from bP (by rw[qe];exact an _)];clear hb;go_upto_region 7 with fail
     refine jX fun W0 hb0 k0 hs0=>?_
     obtain⟨g,hg⟩:∃g,g=wr.heap.size:=⟨_,rfl⟩;rw[←hg] at k0 ⊢;have hwg:w.heap.size≤g:=by rw[hg];exact HB.out.size
     have hBW:=HB.out.trans (hb0.mono HB.out.size);have M0:Nk g (.slice A F.length c) F (ki 0) W0:=⟨⟨.slice none 0 0,k0,Cc _ _ _ _⟩,(HR.out.keep hBW (an _)).mono hwg⟩;have H0:=aa (Ny.start M0);have HW:=aa hBW;clear k0 hb0 hs0 M0 hg hBW;have HLr:=F5 (g:=g) (fv:=.slice A F.length c) hF (F.length+1) 0 (by omega);have hL:=lT F (F.length+1);obtain⟨L,hLe⟩:∃L,L=wM F (F.length+1):=⟨_,rfl⟩;rw[←hLe] at HLr hL;have hB0:Bd F 100 (ki 0):=⟨bK _,by show 0≤_;omega,by show 0≤200;omega⟩;have hi:Bd F 1 (fB 1 (ki 0)):=⟨bK _,by show (([]:List Nd)++[_]).length≤46*0+1;simp,by show 0≤200;omega⟩;have hg0:=qR hL _ (fB 1 (ki 0),false) rfl hi.p;obtain⟨f,hf⟩:∃f:Ps→Ps,f=fun s=>(mj F L (s,false)).1:=⟨_,rfl⟩
     obtain⟨T,hT⟩:∃T,T=f (fB 1 (ki 0)):=⟨_,rfl⟩;have hPg:Pg F L T (fB 1 (ki 0)) false:=⟨hi.p,hi.d,by show 1+4≤16*0+5;omega,by rw[hT,hf]⟩;have HGE:=aa (show Gd F.length 4 (fB 1 (ki 0)) (f (fB 1 (ki 0))) by rw[hf];exact hg0.1);have HX:=aa (show fP F=dN 1 f (ki 0) by rw[hf,hLe];rfl);have HT:=aa hT;clear hg0 hf hT hLe;go_wp2_with (
       (go_at_call 36;with_reducible refine Ny.go H0 (kV hF 1 (by decide) hB0) fun a1 A1=>?_))
     go_loopw [7] (fun v wr=>∃(u:Ps) (b:Bool) (z:Int),v=.int .i64 z∧(z==2)=b∧Pg F L T u b∧Ny g (.slice A F.length c) F W0 u wr) (fun v wr=>2*F.length+2-(2*pOn g wr+MS v))
     case atStart=>exact⟨_,false,0,rfl,rfl,hPg,A1.out⟩
     case round=>
       obtain⟨u,b,z,rfl,hzb,hPu,hz⟩:=hrel;have U0:=aa hz;have HP:=aa hz.m.pOn;have HS:=aa hPu;have HZB:=aa hzb;have hBu:=hPu.bd;have hup:=hPu.p;have tz:(z != 2) = !b:=by rw[bne,hzb]
       obtain⟨gl,y3,_⟩:=Ny.inc3 U0;clear hz hPu hzb;by_cases hlt:u.p<F.length
       ·have u1:(u.p:Int)<(F.length:Int):=by omega
        cases hc:dO F [110] u
        ·cases b
         ·replace tz:(z != 2)=true:=tz
          cases hp:fQ F u
          ·have HG:=aa (HS.out.step hL (t:=eC 17 u) (b':=false) (by unfold gh;simp only[hc,hp,hlt,Bool.and_false,bW,br,aK]))
           go_wp2_with (first
             | (go_at_call 40;with_reducible refine Ny.go E2 (qE hF (k:=17) (by decide) (hBu.mono (by omega)) hlt) fun e3 E3=>?_)
             | (go_at_call 38;with_reducible refine Ny.go E1 (mW hF false hup hp) fun e2 E2=>?_)
             | (go_at_call 37;with_reducible refine Ny.go U0 (fi false hF hup [110] (by decide) hc) fun e1 E1=>?_)
             | fail)
           refine⟨⟨_,false,17,rfl,rfl,HG.out.1,E3.out⟩,?_⟩;rw[E3.out.m.pOn,HP.out];have h1:=HG.out.2;have h2:=HG.out.1.p;have h3:=HZB.out;unfold iL at h1;simp only[MS,h3];simp only[aK,bW,br] at h1 ⊢
           first
             | omega
             | (rw[aE (show ((2:Int)==2)=true from rfl)];omega)
             | (cases b<;>simp only[aK,bW,br] at h1 ⊢ <;> omega)
          ·have HG:=aa (HS.out.step hL (t:=dN 2 L u) (b':=true) (by unfold gh;simp only[hc,hp,Bool.not_false,cJ,Bool.and_self,bW,br,aK]))
           go_wp2_with (first
             | (go_at_call 39;with_reducible refine Ny.go E2 (AW HLr (bK _) (hBu.mono (by omega)) hp) fun e3 E3=>?_)
             | (go_at_call 38;with_reducible refine Ny.go E1 (mW hF true hup hp) fun e2 E2=>?_)
             | (go_at_call 37;with_reducible refine Ny.go U0 (fi false hF hup [110] (by decide) hc) fun e1 E1=>?_)
             | fail)
           refine⟨⟨_,true,2,rfl,rfl,HG.out.1,E3.out⟩,?_⟩;rw[E3.out.m.pOn,HP.out];have h1:=HG.out.2;have h2:=HG.out.1.p;have h3:=HZB.out;unfold iL at h1;simp only[MS,h3];simp only[aK,bW,br] at h1 ⊢
           first
             | omega
             | (rw[aE (show ((2:Int)==2)=true from rfl)];omega)
             | (cases b<;>simp only[aK,bW,br] at h1 ⊢ <;> omega)
         ·replace tz:(z != 2)=false:=tz;have HG:=aa (HS.out.step hL (t:=eC 17 u) (b':=false) (by unfold gh;simp only[hc,hlt,Bool.not_true,cN,bW,br,aK]))
          go_wp2_with (first
            | (go_at_call 40;with_reducible refine Ny.go E1 (qE hF (k:=17) (by decide) (hBu.mono (by omega)) hlt) fun e3 E3=>?_)
            | (go_at_call 37;with_reducible refine Ny.go U0 (fi false hF hup [110] (by decide) hc) fun e1 E1=>?_)
            | fail)
          refine⟨⟨_,false,17,rfl,rfl,HG.out.1,E3.out⟩,?_⟩;rw[E3.out.m.pOn,HP.out];have h1:=HG.out.2;have h2:=HG.out.1.p;have h3:=HZB.out;unfold iL at h1;simp only[MS,h3];simp only[aK,bW,br] at h1 ⊢
          first
            | omega
            | (rw[aE (show ((2:Int)==2)=true from rfl)];omega)
            | (cases b<;>simp only[aK,bW,br] at h1 ⊢ <;> omega)
        ·clear tz;have HG:=aa (HS.out.step hL (t:=dL u) (b':=b) (by unfold gh;simp only[hc,bW]));go_wp2_with (
           (go_at_call 37;with_reducible refine Ny.inc U0 (by omega) (fi true hF hup [110] (by decide) hc) fun e1 ge1 de1 ke1 ve1 E1=>?_))
         refine⟨⟨_,b,z,rfl,HZB.out,HG.out.1,E1.out⟩,?_⟩;rw[E1.out.m.pOn,HP.out];have h1:=HG.out.2;have h2:=HG.out.1.p;have h3:=HZB.out;unfold iL at h1;simp only[MS,h3];simp only[aK,bW,br] at h1 ⊢
         first
           | omega
           | (rw[aE (show ((2:Int)==2)=true from rfl)];omega)
           | (cases b<;>simp only[aK,bW,br] at h1 ⊢ <;> omega)
       ·have u1:¬(u.p:Int)<(F.length:Int):=by omega
        have HE:=aa (show f (fB 1 (ki 0))=u by rw[←HT.out,←HS.out.t,yh hL hup hlt]);clear tz;go_wp2_with (
          (go_at_call 41;with_reducible refine Ny.go (Ny.cast U0 HE.out) (od hF 1 f (by decide) hB0 HGE.out (by omega)) fun e9 E9=>?_
           obtain⟨lv,kb,ko⟩:=E9.out.m.w;have d2:=kb.cell 2;have H9:=aa (ac E9.out.f.hb ko);have gl9:=kb.lt;clear kb ko))
        go_ret;exact⟨_,rfl,fF (by rw[HX.out];exact H9.out.2) hwg,HW.out.trans (H9.out.1.mono hwg)⟩
theorem KW (ts:List Nd) (A A':Option Addr) (c c':Nat) (w:World) (hl:ts.length≤100000) (h1:Rd w w.heap.size 4 (.slice A ts.length c) ts.length (gz ts)) (h2:Rd w w.heap.size 4 (.slice A' ts.length c') ts.length (gz ts)) :
    Calls Tryz.prog 13 #[.slice A ts.length c,.slice A' ts.length c'] w fun e w'=>e=.returned (.bool true)∧Below w.heap.size w w':=by
  have H0:=aa (ac h1 h2);clear h1 h2;go_enter Tryz.func13,Tryz.ntmps13;go_wp2;go_loopw [5] (fun i wr=>∃k:Nat,k≤ts.length∧i=.int .i64 k∧Below w.heap.size w wr) (fun i _=>ts.length-(intOf i).toNat)
  case atStart=>exact⟨0,bK _,rfl,aD _ _⟩
  case round=>
    obtain⟨k,hk,rfl,hb⟩:=hrel;by_cases hlt:k<ts.length
    ·have u1:(k:Int)<(ts.length:Int):=by omega
     have u2:(0:Int)≤(k:Int):=by omega
     obtain⟨t,ht⟩:∃t,ts[k]? = some t:=⟨_,ax hlt⟩;obtain⟨g,o,rfl,_,hc⟩:=iY jl (H0.out.1.keep hb (an _)) ht rfl;obtain⟨g',o',rfl,_,hc'⟩:=iY jl (H0.out.2.keep hb (an _)) ht rfl;have y0:wr.cell? ⟨g,o+k*4,none⟩=some (.int .i64 (t.kd:Int)):=hc 0 _ rfl;have y1:wr.cell? ⟨g,o+k*4+1,none⟩=some (.int .i64 (t.fr:Int)):=hc 1 _ rfl;have y2:wr.cell? ⟨g,o+k*4+2,none⟩=some (.int .i64 (t.tt:Int)):=hc 2 _ rfl;have y3:wr.cell? ⟨g,o+k*4+3,none⟩=some (.int .i64 t.up):=hc 3 _ rfl;have z0:wr.cell? ⟨g',o'+k*4,none⟩=some (.int .i64 (t.kd:Int)):=hc' 0 _ rfl;have z1:wr.cell? ⟨g',o'+k*4+1,none⟩=some (.int .i64 (t.fr:Int)):=hc' 1 _ rfl;have z2:wr.cell? ⟨g',o'+k*4+2,none⟩=some (.int .i64 (t.tt:Int)):=hc' 2 _ rfl;have z3:wr.cell? ⟨g',o'+k*4+3,none⟩=some (.int .i64 t.up):=hc' 3 _ rfl;have HB:=aa hb;clear hb hc hc' ht;go_wp2_with fail;go_quiet (fail);go_wp2_with fail;exact⟨⟨k+1,by omega,by go_num,dM HB.out _⟩,by simp[intOf]<;>omega⟩
    ·obtain rfl:k=ts.length:=by omega
     have HB:=aa hb;clear hb;go_wp2_with fail;go_ret;exact⟨rfl,HB.out⟩
end
end Go.Proofs.YtcagfamdoaoimaaGreatDoor
