/- The reference's parser: pipes and lists. PRINTED by gen_je13.py. -/
import Derived.Test.YtmclohkaiemnaaaGreatDoorJd13
import Derived.Test.YtmclohkaiemnaaaGreatDoorQb13
import Derived.Test.YtmclohkaiemnaaaGreatDoorEc9
import Derived.Test.YtmclohkaiemnaaaGreatDoorLa9
import Derived.Test.YtmclohkaiemnaaaGreatDoorLf9
import Derived.Test.YtmclohkaiemnaaaGreatDoorMb13
import Derived.Test.YtmclohkaiemnaaaGreatDoorRfy
import Derived.Test.YtmclohkaiemnaaaGreatDoorPl13
import Derived.BigQuiet
set_option linter.unusedVariables false
set_option linter.unusedSimpArgs false
set_option maxRecDepth 100000
set_option maxHeartbeats 8000000
namespace Go.Proofs.YtmclohkaiemnaaaGreatDoor
section
open Go.RowKit
theorem FG {F:List Lf} {s:Ps} (hs:s.p≤F.length) (h:ef F [110] s=true):s.p<(dW F s).p:=by
  have h1:=er h (by decide);have h2:dW F s=dW F (dY s):=LC.goy (i7 (F:=F)) hs (by rw[aB h]);have h3:=(ej (F:=F) (s:=dY s) h1).p;rw[h2];exact bQ (dM _) h3
section
variable {g:Nat} {fv:Value} {F:List Lf} {L:Ps→Ps} {q:Nat} {s:Ps} {W:World} (hF:FB F) (hL:GL F L) (HL:ss g fv F L q)
include hF hL HL
theorem KR (hq:q≤s.p+1) (hB:Bd F 23 s) (hb:eN F s=true) (h:Nk g fv F s W) :
    vA 68 g fv F W (.tuple #[]) (jA F L s):=by
  have hn:=hF.n;have hp:=hB.p;have H0:=ac (Ny.start h);have HX:=ac (show jA F L s=eh 4 (jo F L) s by unfold jA;rw[aB hb]);have hi:=hB.inn 4;have hg1:=fJ (F:=F) (cs:=[33]) (by decide) hi.p;have hB1:=hi.gd hg1;have hq1:q≤(eG F [33] (fG 4 s)).p+1:=aA hq (bF hg1.p);have hg2:=nO hL hB1.p;have hB2:=hB1.gd hg2;have hq2:q≤(iL F L (eG F [33] (fG 4 s))).p+1:=aA hq1 (bF hg2.p);have HGE:=ac (tQ hL hi.p);have hi5:(fG 4 s).p≤100000:=by show s.p≤_;omega
  clear h
  cases h1:ef F [33] (fG 4 s)
  case' false=>have HK:=ac (show eG F [33] (fG 4 s)=fG 4 s from oZ h1)
  case' true=>have HK:=ac (show eG F [33] (fG 4 s)=dY (fG 4 s) from lT h1)
  all_goals (
    go_enter Tryz.func68,Tryz.ntmps68
    go_wp2_with (first
      | (go_at_call 87;with_reducible refine Ny.go (Ny.cast A2 HK.out) (vt hF hL HL hq1 (hB1.mono (by omega))) fun a3 A3=>?_)
      | (go_at_call 22;with_reducible refine Ny.go A1 (fw false hF hi.p [33] (by decide) h1) fun a2 A2=>?_)
      | (go_at_call 22;with_reducible refine Ny.inc A1 (hi5) (fw true hF hi.p [33] (by decide) h1) fun a2 ga2 da2 ka2 va2 A2=>?_)
      | (go_at_call 21;with_reducible refine Ny.go H0 (kJ hF 4 (by decide) (hB.mono (by omega))) fun a1 A1=>?_)
      | fail)
    go_loopw [] (fun wr=>∃u:Ps,q≤u.p+1∧Bd F 26 u∧(eV F.length (fun s=>if ef F [124] s=true then (iL F L (dW F (dY s)),true) else (s,false))) u=(eV F.length (fun s=>if ef F [124] s=true then (iL F L (dW F (dY s)),true) else (s,false))) (iL F L (eG F [33] (fG 4 s)))∧Ny g fv F W u wr) (fun wr=>F.length-pOn g wr)
    case atStart=>exact⟨_,hq2,hB2.mono (by omega),rfl,A3.out⟩
    case round=>
      obtain⟨u,hqu,hBu,hlu,hz⟩:=hrel;have U0:=ac hz;have HU:=ac hlu;have HP:=ac hz.m.pOn;have hup:=hBu.p;clear hz hlu
      cases hc:ef F [124] u
      ·have HE:=ac (show jo F L (fG 4 s)=u by unfold jo;exact HU.out.symm.trans (LC.gon (jl hL) hBu.p (t:=u) (by show (if _ then _ else _)=_;rw[aC (by rw[hc];decide)])))
       go_wp2_with (first
         | (go_at_call 26;with_reducible refine Ny.go (Ny.cast E1 HE.out) (nS hF 4 (jo F L) (by decide) (hB.mono (by omega)) HGE.out (by omega)) fun e2 E2=>?_)
         | (go_at_call 22;with_reducible refine Ny.go U0 (fw false hF hup [124] (by decide) hc) fun e1 E1=>?_)
         | fail)
       first|go_end0|refine bn ?_
       exact⟨rfl,by rw[HX.out];exact E2.out⟩
      ·have hltu:=er hc (by decide);have hn2:=hBu.next hltu (by omega);have hg3:=ej (F:=F) hn2.p;have hB3:=hn2.gd hg3;have hq3:q≤(dW F (dY u)).p+1:=aA hqu (bF (aA (bW _) hg3.p));have hy:=(jl hL u hBu.p).yy (t:=iL F L (dW F (dY u))) (by rw[aB hc]);have HE:=ac ((LC.goy (jl hL) hBu.p (t:=iL F L (dW F (dY u))) (by show (if _ then _ else _)=_;rw[aB hc])).symm.trans HU.out)
       go_wp2_with (first
         | (go_at_call 87;with_reducible refine Ny.go E2 (vt hF hL HL hq3 (hB3.mono (by omega))) fun e3 E3=>?_)
         | (go_at_call 47;with_reducible refine Ny.go E1 (gU hF hn2.p) fun e2 E2=>?_)
         | (go_at_call 22;with_reducible refine Ny.inc U0 (by omega) (fw true hF hup [124] (by decide) hc) fun e1 ge1 de1 ke1 ve1 E1=>?_)
         | fail)
       refine⟨⟨_,aA hqu (bF (aM hy.2)),hBu.gd hy.1,HE.out,E3.out⟩,?_⟩;rw[E3.out.m.pOn,HP.out]
       have:=hy.2
       have:=hy.1.N
       omega)
theorem wW (hq:q≤s.p+1) (hB:Bd F 20 s) (hb:eN F s=true) (h:Nk g fv F s W) :
    vA 46 g fv F W (.tuple #[]) (eh 3 (eW F L) s):=by
  have hn:=hF.n;have hp:=hB.p;have H0:=ac (Ny.start h);have hi:=hB.inn 3;have hb3:eN F (fG 3 s)=true:=hb;have hqi:q≤(fG 3 s).p+1:=hq;have hg2:=nN hL hi.p;have hB2:=hi.gd hg2;have hq2:q≤(jA F L (fG 3 s)).p+1:=aA hq (bF hg2.p);have HGE:=ac (lj hL hi.p);clear h;go_enter Tryz.func46,Tryz.ntmps46
  go_wp2_with (first
    | (go_at_call 68;with_reducible refine Ny.go A1 (KR hF hL HL hqi (hi.mono (by omega)) hb3) fun a3 A3=>?_)
    | (go_at_call 21;with_reducible refine Ny.go H0 (kJ hF 3 (by decide) (hB.mono (by omega))) fun a1 A1=>?_)
    | fail)
  go_loopw [] (fun wr=>∃u:Ps,q≤u.p+1∧Bd F 26 u∧(eV F.length (fun s=>if ef F [97,111] s=true then (jA F L (dW F (dY s)),true) else (s,false))) u=(eV F.length (fun s=>if ef F [97,111] s=true then (jA F L (dW F (dY s)),true) else (s,false))) (jA F L (fG 3 s))∧Ny g fv F W u wr) (fun wr=>F.length-pOn g wr)
  case atStart=>exact⟨_,hq2,hB2.mono (by omega),rfl,A3.out⟩
  case round=>
    obtain⟨u,hqu,hBu,hlu,hz⟩:=hrel;have U0:=ac hz;have HU:=ac hlu;have HP:=ac hz.m.pOn;have hup:=hBu.p;clear hz hlu
    cases hc:ef F [97,111] u
    ·have HE:=ac (show eW F L (fG 3 s)=u by unfold eW;exact HU.out.symm.trans (LC.gon (ng hL) hBu.p (t:=u) (by show (if _ then _ else _)=_;rw[aC (by rw[hc];decide)])))
     go_wp2_with (first
       | (go_at_call 26;with_reducible refine Ny.go (Ny.cast E1 HE.out) (nS hF 3 (eW F L) (by decide) (hB.mono (by omega)) HGE.out (by omega)) fun e2 E2=>?_)
       | (go_at_call 22;with_reducible refine Ny.go U0 (fw false hF hup [97,111] (by decide) hc) fun e1 E1=>?_)
       | fail)
     first|go_end0|refine bn ?_
     exact⟨rfl,E2.out⟩
    ·have hltu:=er hc (by decide);have hn2:=hBu.next hltu (by omega);have hg3:=ej (F:=F) hn2.p;have hB3:=hn2.gd hg3;have hq3:q≤(dW F (dY u)).p+1:=aA hqu (bF (aA (bW _) hg3.p));have hy:=(ng hL u hBu.p).yy (t:=jA F L (dW F (dY u))) (by rw[aB hc]);have HE:=ac ((LC.goy (ng hL) hBu.p (t:=jA F L (dW F (dY u))) (by show (if _ then _ else _)=_;rw[aB hc])).symm.trans HU.out)
     cases hd:eN F (dW F (dY u))
     case' false=>have HM:=ac (show jA F L (dW F (dY u))=fe (dW F (dY u)) by unfold jA;rw[aC (by rw[hd];decide)])
     all_goals (
       go_wp2_with (first
         | (go_at_call 68;with_reducible refine Ny.go E3 (KR hF hL HL hq3 (hB3.mono (by omega)) hd) fun e4 E4=>?_)
         | (go_at_call 69;with_reducible refine Ny.go E3 (nH hF (hB3.mono (by omega))) fun e4 E4=>?_)
         | (go_at_call 23;with_reducible refine Ny.go E2 (mO hF _ hB3.p hd) fun e3 E3=>?_)
         | (go_at_call 47;with_reducible refine Ny.go E1 (gU hF hn2.p) fun e2 E2=>?_)
         | (go_at_call 22;with_reducible refine Ny.inc U0 (by omega) (fw true hF hup [97,111] (by decide) hc) fun e1 ge1 de1 ke1 ve1 E1=>?_)
         | fail))
     ·exact⟨⟨_,aA hqu (bF (aM hy.2)),hBu.gd hy.1,HE.out,(Ny.cast E4 HM.out).out⟩,by
        rw[(Ny.cast E4 HM.out).out.m.pOn,HP.out]
        have:=hy.2
        have:=hy.1.N
        omega⟩
     ·exact⟨⟨_,aA hqu (bF (aM hy.2)),hBu.gd hy.1,HE.out,E4.out⟩,by
        rw[E4.out.m.pOn,HP.out]
        have:=hy.2
        have:=hy.1.N
        omega⟩
theorem JE (hq:q≤s.p+1) (hB:Bd F 19 s) (hb:eN F s=true) (h:Nk g fv F s W) :
    vA 24 g fv F W (.tuple #[]) (eh 2 (kw F L) s):=by
  have hn:=hF.n;have hp:=hB.p;have H0:=ac (Ny.start h);have hi:=hB.inn 2;have hb2:eN F (fG 2 s)=true:=hb;have hqi:q≤(fG 2 s).p+1:=hq;have HGE:=ac (F8 hL hi.p);clear h;go_enter Tryz.func24,Tryz.ntmps24
  go_wp2_with (first
    | (go_at_call 46;with_reducible refine Ny.go A1 (wW hF hL HL hqi (hi.mono (by omega)) hb2) fun a3 A3=>?_)
    | (go_at_call 21;with_reducible refine Ny.go H0 (kJ hF 2 (by decide) (hB.mono (by omega))) fun a1 A1=>?_)
    | fail)
  go_loopw [] (fun wr=>∃u:Ps,q≤u.p+1∧Bd F 20 u∧eN F u=true∧kw F L (fG 2 s)=kw F L u∧Ny g fv F W (eh 3 (eW F L) u) wr) (fun wr=>F.length-pOn g wr)
  case atStart=>exact⟨fG 2 s,hqi,hi,hb2,rfl,A3.out⟩
  case round=>
    obtain⟨u,hqu,hBu,hpu,hlu,hz⟩:=hrel;have U0:=ac hz;have HU:=ac hlu;have HP:=ac hz.m.pOn;have hup:=hBu.p;clear hz hlu;have hgv:=Gd.node0 (k:=3) (s:=u) (f:=eW F L) (A:=2) (N:=F.length) fun t ht _=>lj hL (by rw[ht];exact hBu.p)
    have hBv:=hBu.gd hgv;have hvp:=hBv.p
    cases ha:ef F [59,38] (eh 3 (eW F L) u)
    ·cases hk:ef F [110] (eh 3 (eW F L) u)
     ·obtain⟨hz0,hz1⟩:=KV hBv.p hk;have HZ:=ac hz1.symm;clear hz1;have HE:=ac (show kw F L (fG 2 s)=eh 3 (eW F L) u by rw[HU.out];exact LC.gon (jk hL) hBu.p (t:=eh 3 (eW F L) u) (by show gj F (eh 3 (eW F L) u)=_;unfold gj;rw[aC (by rw[ha];decide),aC (by rw[hk];decide)]))
      go_wp2_with (first
        | (go_at_call 26;with_reducible refine Ny.go (Ny.cast (Ny.cast E2 HZ.out) HE.out) (nS hF 2 (kw F L) (by decide) (hB.mono (by omega)) HGE.out (by omega)) fun e9 E9=>?_)
        | (go_at_call 47;with_reducible refine Ny.go E1 (gU hF hBv.p) fun e2 E2=>?_)
        | (go_at_call 22;with_reducible refine Ny.go U0 (fw false hF hBv.p [59,38] (by decide) ha) fun e1 E1=>?_)
        | fail)
      try rw[aY]
      first|go_end0|refine bn ?_
      exact⟨rfl,E9.out⟩
     ·have hz0:=KU hBv.p hk;have hg3:=ej (F:=F) hBv.p;have hB3:=hBv.gd hg3;have hlt3:=FG hBv.p hk
      cases hp':eN F (dW F (eh 3 (eW F L) u))
      ·have HE:=ac (show kw F L (fG 2 s)=dW F (eh 3 (eW F L) u) by rw[HU.out];exact LC.gon (jk hL) hBu.p (t:=dW F (eh 3 (eW F L) u)) (by show gj F (eh 3 (eW F L) u)=_;unfold gj;rw[aC (by rw[ha];decide),aB hk,hp']))
       go_wp2_with (first
         | (go_at_call 26;with_reducible refine Ny.go (Ny.cast E3 HE.out) (nS hF 2 (kw F L) (by decide) (hB.mono (by omega)) HGE.out (by omega)) fun e9 E9=>?_)
         | (go_at_call 23;with_reducible refine Ny.go E2 (mO hF false hB3.p hp') fun e3 E3=>?_)
         | (go_at_call 47;with_reducible refine Ny.go E1 (gU hF hBv.p) fun e2 E2=>?_)
         | (go_at_call 22;with_reducible refine Ny.go U0 (fw false hF hBv.p [59,38] (by decide) ha) fun e1 E1=>?_)
         | fail)
       try rw[aY]
       first|go_end0|refine bn ?_
       exact⟨rfl,E9.out⟩
      ·have hy:=(jk hL u hBu.p).yy (t:=dW F (eh 3 (eW F L) u)) (by show gj F (eh 3 (eW F L) u)=_;unfold gj;rw[aC (by rw[ha];decide),aB hk,hp']);have HE:=ac (show kw F L (fG 2 s)=kw F L (dW F (eh 3 (eW F L) u)) by rw[HU.out];exact LC.goy (jk hL) hBu.p (t:=dW F (eh 3 (eW F L) u)) (by show gj F (eh 3 (eW F L) u)=_;unfold gj;rw[aC (by rw[ha];decide),aB hk,hp']));have hqy:q≤(dW F (eh 3 (eW F L) u)).p+1:=aA hqu (bF (aM hy.2));have hgy:=Gd.node0 (k:=3) (s:=dW F (eh 3 (eW F L) u)) (f:=eW F L) (A:=2) (N:=F.length) fun t ht _=>lj hL (by rw[ht];exact hy.1.N)
       go_wp2_with (first
         | (go_at_call 46;with_reducible refine Ny.go E3 (wW hF hL HL hqy ((hBu.gd hy.1).mono (by omega)) hp') fun e9 E9=>?_)
         | (go_at_call 23;with_reducible refine Ny.go E2 (mO hF true hB3.p hp') fun e3 E3=>?_)
         | (go_at_call 47;with_reducible refine Ny.go E1 (gU hF hBv.p) fun e2 E2=>?_)
         | (go_at_call 22;with_reducible refine Ny.go U0 (fw false hF hBv.p [59,38] (by decide) ha) fun e1 E1=>?_)
         | fail)
       refine⟨⟨dW F (eh 3 (eW F L) u),hqy,hBu.gd hy.1,hp',HE.out,E9.out⟩,?_⟩;rw[E9.out.m.pOn,HP.out];have h1:=hy.2;have h2:=hgy.p;have h3:=hgy.N;have h4:=hgv.p;have h5:=hlt3;omega
    ·have hltv:=er ha (by decide);have hn2:=hBv.next hltv (by omega);have hg3:=ej (F:=F) hn2.p;have hB3:=hn2.gd hg3;have hlt3:(eh 3 (eW F L) u).p<(dW F (dY (eh 3 (eW F L) u))).p:=bQ (dM _) hg3.p
     cases hp':eN F (dW F (dY (eh 3 (eW F L) u)))
     ·have HE:=ac (show kw F L (fG 2 s)=dW F (dY (eh 3 (eW F L) u)) by rw[HU.out];exact LC.gon (jk hL) hBu.p (t:=dW F (dY (eh 3 (eW F L) u))) (by show gj F (eh 3 (eW F L) u)=_;unfold gj;rw[aB ha,hp']))
      go_wp2_with (first
        | (go_at_call 26;with_reducible refine Ny.go (Ny.cast E3 HE.out) (nS hF 2 (kw F L) (by decide) (hB.mono (by omega)) HGE.out (by omega)) fun e9 E9=>?_)
        | (go_at_call 23;with_reducible refine Ny.go E2 (mO hF false hB3.p hp') fun e3 E3=>?_)
        | (go_at_call 47;with_reducible refine Ny.go E1 (gU hF hn2.p) fun e2 E2=>?_)
        | (go_at_call 22;with_reducible refine Ny.inc U0 (by omega) (fw true hF hBv.p [59,38] (by decide) ha) fun e1 ge1 de1 ke1 ve1 E1=>?_)
        | fail)
      try rw[aY]
      first|go_end0|refine bn ?_
      exact⟨rfl,E9.out⟩
     ·have hy:=(jk hL u hBu.p).yy (t:=dW F (dY (eh 3 (eW F L) u))) (by show gj F (eh 3 (eW F L) u)=_;unfold gj;rw[aB ha,hp']);have HE:=ac (show kw F L (fG 2 s)=kw F L (dW F (dY (eh 3 (eW F L) u))) by rw[HU.out];exact LC.goy (jk hL) hBu.p (t:=dW F (dY (eh 3 (eW F L) u))) (by show gj F (eh 3 (eW F L) u)=_;unfold gj;rw[aB ha,hp']));have hqy:q≤(dW F (dY (eh 3 (eW F L) u))).p+1:=aA hqu (bF (aM hy.2));have hgy:=Gd.node0 (k:=3) (s:=dW F (dY (eh 3 (eW F L) u))) (f:=eW F L) (A:=2) (N:=F.length) fun t ht _=>lj hL (by rw[ht];exact hy.1.N)
      go_wp2_with (first
        | (go_at_call 46;with_reducible refine Ny.go E3 (wW hF hL HL hqy ((hBu.gd hy.1).mono (by omega)) hp') fun e9 E9=>?_)
        | (go_at_call 23;with_reducible refine Ny.go E2 (mO hF true hB3.p hp') fun e3 E3=>?_)
        | (go_at_call 47;with_reducible refine Ny.go E1 (gU hF hn2.p) fun e2 E2=>?_)
        | (go_at_call 22;with_reducible refine Ny.inc U0 (by omega) (fw true hF hBv.p [59,38] (by decide) ha) fun e1 ge1 de1 ke1 ve1 E1=>?_)
        | fail)
      refine⟨⟨dW F (dY (eh 3 (eW F L) u)),hqy,hBu.gd hy.1,hp',HE.out,E9.out⟩,?_⟩;rw[E9.out.m.pOn,HP.out];have h1:=hy.2;have h2:=hgy.p;have h3:=hgy.N;have h4:=hgv.p;have h5:=hlt3;omega
end
theorem FF {g:Nat} {fv:Value} {F:List Lf} (hF:FB F):∀n q,F.length+1≤n+q→ss g fv F (je F n) q
  | 0,q,hn=>fun s W hq hB hb h=>by have:=hB.p;omega
  | n+1,q,hn=>fun s W hq hB hb h=>JE (q:=q+1) hF (fU F n) (FF hF n (q+1) (by omega)) (by omega) hB hb h
theorem Ej {F:List Lf} {k:Nat} {x:Lf} (hx:F[k]? = some x):(ti F).take k++[sA x]=(ti F).take (k+1):=by
  unfold ti;rw[List.take_add_one,aV,hx];rfl
def Od (v:Value):Nat:=match v with | .int _ z=>if (z==2)=true then 1 else 0|_=>0
theorem pP (F:List Lf) (fv:Value) (w:World) (hF:FB F) (hR:Rd w w.heap.size 4 fv F.length (gv F)) :
    Calls Tryz.prog 7 #[fv] w fun e w'=>∃v,e=.returned v∧w'.ownsRow w.heap.size 52 4 v (ei F).l.length (fm (ei F).l)∧Below w.heap.size w w':=by
  obtain⟨A,c,rfl⟩:=hR.formm;have hn:=hF.n;have HR:=ac hR;clear hR;go_enter Tryz.func7,Tryz.ntmps7;go_wp2_with fail;go_loopw [3,4] (fun sv iv wr=>∃k:Nat,k≤F.length∧iv=.int .i64 k∧sv=.string ⟨((ti F).take k).toArray⟩∧Below w.heap.size w wr) (fun sv iv _=>F.length-(intOf iv).toNat)
  case atStart=>exact⟨0,bq _,rfl,rfl,ay _ _⟩
  case round=>
    obtain⟨k,hk,rfl,rfl,hb⟩:=hrel;by_cases hlt:k<F.length
    ·have u1:(k:Int)<(F.length:Int):=by omega
     have u2:(0:Int)≤(k:Int):=by omega
     obtain⟨x,hx⟩:∃x,F[k]? = some x:=⟨_,ax hlt⟩;have hxl:=hF.t x (aI hx);obtain⟨g1,o1,rfl,y0,y1,y2,y3⟩:=gZ (HR.out.keep hb (au _)) hx rfl;have HS:=ac (show ByteArray.mk ((ti F).take k).toArray++ByteArray.mk [sA x].toArray=⟨((ti F).take (k+1)).toArray⟩ by rw[mF,Ej hx]);have HB:=ac hb;have hs9:=hb.size;clear hb hx;go_wp2_with (
       (go_at_call 20;refine(IQ x _ (by omega)).mono ?_;rintro e w2 ⟨rfl,hb2⟩;have H2:=ac (HB.out.trans (hb2.mono hs9));clear hb2))
     exact⟨⟨k+1,by omega,by go_num,congrArg Value.string HS.out,H2.out⟩,by simp[intOf]<;>omega⟩
    ·obtain rfl:k=F.length:=by omega
     have HB:=ac hb;rw[show (ti F).take F.length=ti F from bR (by rw[pN];exact au _)];clear hb;go_upto_region 7 with fail
     refine li fun W0 hb0 k0 hs0=>?_
     obtain⟨g,hg⟩:∃g,g=wr.heap.size:=⟨_,rfl⟩;rw[←hg] at k0 ⊢;have hwg:w.heap.size≤g:=by rw[hg];exact HB.out.size
     have hBW:=HB.out.trans (hb0.mono HB.out.size);have M0:Nk g (.slice A F.length c) F (gO 0) W0:=⟨⟨.slice none 0 0,k0,sL _ _ _ _⟩,(HR.out.keep hBW (au _)).mono hwg⟩;have H0:=ac (Ny.start M0);have HW:=ac hBW;clear k0 hb0 hs0 M0 hg hBW;have HLr:=FF (g:=g) (fv:=.slice A F.length c) hF (F.length+1) 0 (by omega);have hL:=fU F (F.length+1);obtain⟨L,hLe⟩:∃L,L=je F (F.length+1):=⟨_,rfl⟩;rw[←hLe] at HLr hL;have hB0:Bd F 100 (gO 0):=⟨bq _,by show 0≤_;omega,by show 0≤200;omega⟩;have hi:Bd F 1 (fG 1 (gO 0)):=⟨bq _,by show (([]:List Nd)++[_]).length≤46*0+1;simp,by show 0≤200;omega⟩;have hg0:=sU hL _ (fG 1 (gO 0),false) rfl hi.p;obtain⟨f,hf⟩:∃f:Ps→Ps,f=fun s=>(jj F L (s,false)).1:=⟨_,rfl⟩
     obtain⟨T,hT⟩:∃T,T=f (fG 1 (gO 0)):=⟨_,rfl⟩;have hPg:Pg F L T (fG 1 (gO 0)) false:=⟨hi.p,hi.d,by show 1+4≤16*0+5;omega,by rw[hT,hf]⟩;have HGE:=ac (show Gd F.length 4 (fG 1 (gO 0)) (f (fG 1 (gO 0))) by rw[hf];exact hg0.1);have HX:=ac (show ei F=eh 1 f (gO 0) by rw[hf,hLe];rfl);have HT:=ac hT;clear hg0 hf hT hLe;go_wp2_with (
       (go_at_call 21;with_reducible refine Ny.go H0 (kJ hF 1 (by decide) hB0) fun a1 A1=>?_))
     go_loopw [7] (fun v wr=>∃(u:Ps) (b:Bool) (z:Int),v=.int .i64 z∧(z==2)=b∧Pg F L T u b∧Ny g (.slice A F.length c) F W0 u wr) (fun v wr=>2*F.length+2-(2*pOn g wr+Od v))
     case atStart=>exact⟨_,false,0,rfl,rfl,hPg,A1.out⟩
     case round=>
       obtain⟨u,b,z,rfl,hzb,hPu,hz⟩:=hrel;have U0:=ac hz;have HP:=ac hz.m.pOn;have HS:=ac hPu;have HZB:=ac hzb;have hBu:=hPu.bd;have hup:=hPu.p;have tz:(z != 2) = !b:=by rw[bne,hzb]
       obtain⟨gl,y3,_⟩:=Ny.inc3 U0;clear hz hPu hzb;by_cases hlt:u.p<F.length
       ·have u1:(u.p:Int)<(F.length:Int):=by omega
        cases hc:ef F [110] u
        ·cases b
         ·replace tz:(z != 2)=true:=tz
          cases hp:eN F u;have HG:=ac (HS.out.step hL (t:=eD 17 u) (b':=false) (by unfold fM;simp only[hc,hp,hlt,Bool.and_false,bP,bp,aH]))
          go_wp2_with (first
            | (go_at_call 25;with_reducible refine Ny.go E2 (qe hF (k:=17) (by decide) (hBu.mono (by omega)) hlt) fun e3 E3=>?_)
            | (go_at_call 23;with_reducible refine Ny.go E1 (mO hF false hup hp) fun e2 E2=>?_)
            | (go_at_call 22;with_reducible refine Ny.go U0 (fw false hF hup [110] (by decide) hc) fun e1 E1=>?_)
            | fail)
          refine⟨⟨_,false,17,rfl,rfl,HG.out.1,E3.out⟩,?_⟩
          rotate_left
          have HG:=ac (HS.out.step hL (t:=eh 2 L u) (b':=true) (by unfold fM;simp only[hc,hp,Bool.not_false,cN,Bool.and_self,bP,bp,aH]))
          go_wp2_with (first
            | (go_at_call 24;with_reducible refine Ny.go E2 (Ar HLr (bq _) (hBu.mono (by omega)) hp) fun e3 E3=>?_)
            | (go_at_call 23;with_reducible refine Ny.go E1 (mO hF true hup hp) fun e2 E2=>?_)
            | (go_at_call 22;with_reducible refine Ny.go U0 (fw false hF hup [110] (by decide) hc) fun e1 E1=>?_)
            | fail)
          refine⟨⟨_,true,2,rfl,rfl,HG.out.1,E3.out⟩,?_⟩
          rotate_left
          all_goals (
            rw[E3.out.m.pOn,HP.out];have h1:=HG.out.2;have h2:=HG.out.1.p;have h3:=HZB.out;unfold jb at h1;simp only[Od,h3];simp only[aH,bP,bp] at h1 ⊢
            first
              | omega
              | (rw[aB (show ((2:Int)==2)=true from rfl)];omega)
              | (cases b<;>simp only[aH,bP,bp] at h1 ⊢ <;> omega))
         ·replace tz:(z != 2)=false:=tz;have HG:=ac (HS.out.step hL (t:=eD 17 u) (b':=false) (by unfold fM;simp only[hc,hlt,Bool.not_true,dC,bP,bp,aH]))
          go_wp2_with (first
            | (go_at_call 25;with_reducible refine Ny.go E1 (qe hF (k:=17) (by decide) (hBu.mono (by omega)) hlt) fun e3 E3=>?_)
            | (go_at_call 22;with_reducible refine Ny.go U0 (fw false hF hup [110] (by decide) hc) fun e1 E1=>?_)
            | fail)
          refine⟨⟨_,false,17,rfl,rfl,HG.out.1,E3.out⟩,?_⟩;rw[E3.out.m.pOn,HP.out];have h1:=HG.out.2;have h2:=HG.out.1.p;have h3:=HZB.out;unfold jb at h1;simp only[Od,h3];simp only[aH,bP,bp] at h1 ⊢
          first
            | omega
            | (rw[aB (show ((2:Int)==2)=true from rfl)];omega)
            | (cases b<;>simp only[aH,bP,bp] at h1 ⊢ <;> omega)
        ·clear tz;have HG:=ac (HS.out.step hL (t:=dY u) (b':=b) (by unfold fM;simp only[hc,bP]));go_wp2_with (
           (go_at_call 22;with_reducible refine Ny.inc U0 (by omega) (fw true hF hup [110] (by decide) hc) fun e1 ge1 de1 ke1 ve1 E1=>?_))
         refine⟨⟨_,b,z,rfl,HZB.out,HG.out.1,E1.out⟩,?_⟩;rw[E1.out.m.pOn,HP.out];have h1:=HG.out.2;have h2:=HG.out.1.p;have h3:=HZB.out;unfold jb at h1;simp only[Od,h3];simp only[aH,bP,bp] at h1 ⊢
         first
           | omega
           | (rw[aB (show ((2:Int)==2)=true from rfl)];omega)
           | (cases b<;>simp only[aH,bP,bp] at h1 ⊢ <;> omega)
       ·have u1:¬(u.p:Int)<(F.length:Int):=by omega
        have HE:=ac (show f (fG 1 (gO 0))=u by rw[←HT.out,←HS.out.t,xT hL hup hlt]);clear tz;go_wp2_with (
          (go_at_call 26;with_reducible refine Ny.go (Ny.cast U0 HE.out) (nS hF 1 f (by decide) hB0 HGE.out (by omega)) fun e9 E9=>?_
           obtain⟨lv,kb,ko⟩:=E9.out.m.w;have d2:=kb.cell 2;have H9:=ac (ae E9.out.f.hb ko);have gl9:=kb.lt;clear kb ko))
        go_ret;exact⟨_,rfl,iW (by rw[HX.out];exact H9.out.2) hwg,HW.out.trans (H9.out.1.mono hwg)⟩
end
end Go.Proofs.YtmclohkaiemnaaaGreatDoor
set_option linter.unusedVariables false
set_option linter.unusedSimpArgs false
set_option maxRecDepth 100000
set_option maxHeartbeats 8000000
namespace Go.Proofs.YtmclohkaiemnaaaGreatDoor
open Go.RowKit
variable {u:Int} {l:List Nd} {a b c i k:Nat} {n:Nd} (F:List Lf) (x:Lf) (rows:List (List Value)) (r:List Value) (A:Option Addr)
section
open Go.RowKit Go.ChangeShapes Go.WideShapes Go.Deep
theorem Md (hl:r.length=[FK.i,FK.s,FK.i,FK.i].length) (h:Qk [.i,.s,.i,.i] r):∃x:Lf,r=KZ x:=by
  obtain⟨v0,h0,a,rfl,_⟩:=h 0 .i rfl;obtain⟨v1,h1,l,rfl,_⟩:=h 1 .s rfl;obtain⟨v2,h2,b,rfl,_⟩:=h 2 .i rfl;obtain⟨v3,h3,c,rfl,_⟩:=h 3 .i rfl
  match r,hl with
  | [x,y,z,u],_=>
    simp at h0 h1 h2 h3;subst h0 h1 h2 h3;exact⟨⟨a,l,b,c⟩,rfl⟩
theorem Oe (h:∀r∈rows,r.length=[FK.i,FK.s,FK.i,FK.i].length∧Qk [.i,.s,.i,.i] r):∃xs:List Lf,rows.flatten=gv xs∧xs.length=rows.length:=uM KZ Md rows h
end
inductive xc (l:List Nd) (a:Nat):Nat→Prop
  | refl:xc l a a
  | step {b c:Nat} {n:Nd}:l[b]? = some n→n.up=(c:Int)→c<b→xc l a c→xc l a b
theorem xc.app (h:xc l a b) (m:List Nd):xc (l++m) a b:=by
  induction h with
  | refl=>exact .refl
  | step h1 h2 h3 _ ih=>exact .step (by rw[aU (az.1 h1).1];exact h1) h2 h3 ih
theorem xc.trans (h:xc l a b) (k:xc l b c):xc l a c:=by
  induction k with
  | refl=>exact h
  | step h1 h2 h3 _ ih=>exact .step h1 h2 h3 ih
structure Du (l:List Nd) (i:Nat) (n:Nd):Prop where
  k:Ov n.kd n.fr n.tt
  le:n.fr≤n.tt
  u:0<i→∃(u:Nat) (m:Nd),n.up=(u:Int)∧u<i∧xc l u (i-1)∧l[u]? = some m∧m.fr≤n.fr∧n.tt≤m.tt∧∀(k:Nat) (q:Nd),0<k→k<i→l[k]? = some q→q.up=n.up→q.tt≤n.fr
theorem Du.app (h:Du l i n) (hi:i<l.length∨i=l.length) (m:List Nd):Du (l++m) i n:=by
  refine⟨h.k,h.le,fun h0=>?_⟩;obtain⟨u,p,h1,h2,h3,h4,h5,h6,h7⟩:=h.u h0;refine⟨u,p,h1,h2,h3.app m,by rw[aU (az.1 h4).1];exact h4,h5,h6,fun k q k0 k1 k2 k3=>h7 k q k0 k1 ?_ k3⟩
  rwa [aU (by omega)] at k2
def qN (l:List Nd):Prop:=∀(i:Nat) (n:Nd),l[i]? = some n→Du l i n
theorem qN.snoc (h:qN l) (hn:Du l l.length n):qN (l++[n]):=by
  intro i m hm;rcases bC i l.length with hi|hi
  ·rw[aU hi] at hm
   exact(h i m hm).app (.inl hi) _
  ·have hlt:=(az.1 hm).1;simp only[aD,bU] at hlt;obtain rfl:i=l.length:=by omega
   rw[aP (au _)] at hm;simp at hm;subst hm;exact hn.app (.inr rfl) _
theorem Fo.row (h:Fo b u a c l):∀(pre:List Nd) (v:Nat) (m:Nd),pre.length=b→u=(v:Int)→v<b→qN pre→xc pre v (b-1)→pre[v]? = some m→m.fr≤a→c≤m.tt →
    (∀(k:Nat) (q:Nd),0<k→pre[k]? = some q→q.up=u→q.tt≤a) →
    qN (pre++l)∧xc (pre++l) v (b+l.length-1)∧(∀(k:Nat) (q:Nd),0<k→(pre++l)[k]? = some q→q.up=u→q.tt≤c)∧(∀(k:Nat) (q:Nd),b≤k→(pre++l)[k]? = some q→q.up=u∨(b:Int)≤q.up):=by
  induction h with
  | nil h=>
    intro pre v m h1 h2 h3 h4 h5 h6 h7 h8 h9;rw[bB];exact⟨h4,h5,fun k q k0 k1 k2=>aA (h9 k q k0 k1 k2) h,fun k q k0 k1=>by have:=(az.1 k1).1;omega⟩
  | @cons b u a c k x y ks r e1 e2 e3 e4 e5 ih1 ih2=>
    intro pre v m h1 h2 h3 h4 h5 h6 h7 h8 h9;have hyc:=e5.le;have hn:Du pre pre.length ⟨k,x,y,u⟩:=⟨e3,e2,fun _=>⟨v,m,h2,by omega,by rw[h1];exact h5,h6,by show m.fr≤x;omega,by show y≤m.tt;omega,fun k' q k0 k1 k2 k3=>aA (h9 k' q k0 k2 k3) e1⟩⟩;have r1:=h4.snoc hn;have g0:(pre++[⟨k,x,y,u⟩])[b]? = some ⟨k,x,y,u⟩:=by rw[aP (by omega),h1];simp
    have up0:∀(j:Nat) (q:Nd),0<j→j<b→pre[j]? = some q→q.up<(b:Int):=fun j q j0 j1 j2=>by
      obtain⟨w,_,w1,w2,_⟩:=(h4 j q j2).u j0;omega
    obtain⟨r2,r3,r4,r5⟩:=ih1 (pre++[⟨k,x,y,u⟩]) b ⟨k,x,y,u⟩ (by simp[h1]) rfl (by omega) r1 (by rw[show b+1-1=b by omega];exact .refl) g0 (au _) (au _) (fun j q j0 j1 j2=>by
      rcases bC j b with hj|hj
      ·rw[aU (by omega)] at j1
       have:=up0 j q j0 hj j1
       omega
      ·have:=(az.1 j1).1
       simp only[aD,bU] at this;obtain rfl:j=b:=by omega
       rw[g0] at j1;injection j1 with j1
       subst j1;have j2:u=_:=j2;omega)
    have g1:(pre++[⟨k,x,y,u⟩]++ks)[v]? = some m:=by
      rw[aW,aU (by omega)];exact h6
    have g2:(pre++[⟨k,x,y,u⟩]++ks)[b]? = some ⟨k,x,y,u⟩:=by
      rw[aU (by simp;omega)];exact g0
    have a1:xc (pre++[⟨k,x,y,u⟩]++ks) v b:=by
      refine .step g2 h2 h3 ?_;exact .refl
    obtain⟨r6,r7,r8,r9⟩:=ih2 (pre++[⟨k,x,y,u⟩]++ks) v m (by simp;omega) h2 (by omega) r2 (by
        have:=a1.trans r3
        rwa [show b+1+ks.length-1=b+1+ks.length-1 from rfl] at this) g1 (by omega) h8 (fun j q j0 j1 j2=>by
      rcases bC j b with hj|hj
      ·rw[aW,aU (by omega)] at j1
       have:=h9 j q j0 j1 j2
       omega
      ·rcases bC j (b+1) with hj2|hj2
       ·obtain rfl:j=b:=by omega
        rw[g2] at j1;injection j1 with j1
        subst j1;exact au _
       ·rcases r5 j q hj2 j1 with h|h
        ·omega
        ·omega)
    have e:pre++⟨k,x,y,u⟩::(ks++r)=pre++[⟨k,x,y,u⟩]++ks++r:=by simp
    rw[e];refine⟨r6,?_,r8,fun j q j0 j1=>?_⟩
    ·rw[show b+(⟨k,x,y,u⟩::(ks++r):List Nd).length-1=b+1+ks.length+r.length-1 by simp;omega];exact r7
    ·rcases bC j (b+1+ks.length) with hj|hj
     ·rw[aU (by simp;omega)] at j1;rcases bC j (b+1) with hj2|hj2
      ·obtain rfl:j=b:=by omega
       rw[g2] at j1;injection j1 with j1
       subst j1;exact .inl rfl
      ·rcases r5 j q hj2 j1 with h|h
       ·exact .inr (by omega)
       ·exact .inr (by omega)
     ·rcases r9 j q hj j1 with h|h
      ·exact .inl h
      ·exact .inr (by omega)
theorem ri:qN (ei F).l∧∃r,(ei F).l=⟨1,0,F.length, -1⟩::r:=by
  have h:=fun t (ht:t.p=(gO 0).p)=>sU (fU F (F.length+1)) _ (t,false) rfl (by rw[ht];exact bq _)
  obtain⟨h1,h2⟩:=h {gO 0 with l:=(gO 0).l++[⟨1,(gO 0).p,0,(gO 0).up⟩],up:=((gO 0).l.length:Int)} rfl;obtain⟨m,h3,h4⟩:=h1.f;have e:(ei F).l=⟨1,0,F.length, -1⟩::m:=by
    show ik (jj F (je F (F.length+1)) ({gO 0 with l:=(gO 0).l++[⟨1,(gO 0).p,0,(gO 0).up⟩],up:=((gO 0).l.length:Int)},false)).1.l 0 (jj F (je F (F.length+1)) ({gO 0 with l:=(gO 0).l++[⟨1,(gO 0).p,0,(gO 0).up⟩],up:=((gO 0).l.length:Int)},false)).1.p=_;rw[h3,h2];rfl
  have r0:qN [⟨1,0,F.length, -1⟩]:=by
    intro i n hn
    have:=(az.1 hn).1
    simp at this;subst this;simp at hn;subst hn;exact⟨⟨au _,Nat.le_add_left 1 17,fun e=>absurd (show 1=17 from e) (by decide),fun e=>absurd (show 1=18 from e) (by decide)⟩,bq _,fun h=>absurd h (Nat.lt_irrefl _)⟩
  have h5:Fo 1 ((0:Nat):Int) 0 F.length m:=by rw[h2] at h4;exact h4
  have h6:=h5.row [⟨1,0,F.length, -1⟩] 0 _ rfl rfl (by omega) r0 .refl rfl (bq _) (au _) (fun k q k0 k1 _=>by
    have:=(az.1 k1).1
    simp at this;omega)
  rw[e];exact⟨h6.1,m,rfl⟩
theorem FI:(KZ x).length=4:=rfl
def Ng (x:Lf):Bool:=decide (x.tx.length≤60)
def Hy (F:List Lf) (m:Int):Bool:=decide ((F.length:Int)≤m)&&F.all Ng
theorem LG {F:List Lf} {m:Int} {x:Lf} (hx:F[k]? = some x) (h:Ng x=false):Hy F m=false:=by
  unfold Hy;rw[Bool.and_eq_false_iff];refine .inr ?_;rw[List.all_eq_false];exact⟨x,aI hx,by rw[h];decide⟩
theorem IK {F:List Lf} {m:Int} (hl:(F.length:Int)≤m) (h:∀x∈F,Ng x=true):Hy F m=true:=by
  unfold Hy;rw[aR];exact⟨aG hl,bV.2 h⟩
theorem Bt (c:Nat) (m:Int) (w:World) (hm:F.length≤9223372036854775807) (h:Rd w w.heap.size 4 (.slice A F.length c) F.length (gv F)) :
    AZ 5 #[.slice A F.length c,.int .i64 m] w (.bool (Hy F m)):=by
  have H0:=ac h;clear h;go_enter Tryz.func5,Tryz.ntmps5;by_cases hlm:m<(F.length:Int)
  ·go_wp2;go_ret;exact⟨by unfold Hy;rw[aE (by omega)];rfl,rfl⟩
  ·have hlm2:=ac hlm;go_wp2;go_loopw [5] (fun i wr=>∃k:Nat,k≤F.length∧i=.int .i64 k∧wr=w∧∀x∈F.take k,Ng x=true) (fun i _=>F.length-(intOf i).toNat)
   case atStart=>exact⟨0,bq _,rfl,rfl,fun x hx=>by simp at hx⟩
   case round=>
     obtain⟨k,hk,rfl,rfl,hI⟩:=hrel;by_cases hlt:k<F.length
     ·have u1:(k:Int)<(F.length:Int):=by omega
      have u2:(0:Int)≤(k:Int):=by omega
      obtain⟨x,hx⟩:∃x,F[k]? = some x:=⟨_,ax hlt⟩;obtain⟨g,o,rfl,_,hc⟩:=fW FI H0.out hx rfl;have y1:wr.cell? ⟨g,o+k*4+1,none⟩=some (.string ⟨x.tx.toArray⟩):=hc 1 _ rfl;have HX:=ac (ae hI hx);clear hI hx hc;by_cases hd:(60:Int)<(x.tx.length:Int)
      ·go_wp2;go_ret;exact⟨by rw[LG HX.out.2 (by unfold Ng;rw[aE (by omega)])];rfl,rfl⟩
      ·go_wp2;refine⟨⟨k+1,by omega,by go_num,trivial,fun y hy=>?_⟩,by simp[intOf]<;>omega⟩;rw[List.take_add_one,HX.out.2] at hy;rcases bM.1 hy with hy|hy
       ·exact HX.out.1 y hy
       ·obtain rfl:y=x:=by simpa using hy
        exact aG (by omega)
     ·obtain rfl:k=F.length:=by omega
      rw[dc] at hI;have HX:=ac hI;clear hI;go_wp2;go_ret;exact⟨by rw[IK (by have:=hlm2.out;omega) HX.out];rfl,rfl⟩
end Go.Proofs.YtmclohkaiemnaaaGreatDoor
set_option linter.unusedVariables false
set_option linter.unusedSimpArgs false
set_option maxRecDepth 100000
set_option maxHeartbeats 8000000
namespace Go.Proofs.YtmclohkaiemnaaaGreatDoor
open Go.RowKit
theorem zQ (ts:List Nd) (A A':Option Addr) (c c':Nat) (w:World) (hl:ts.length≤100000) (h1:Rd w w.heap.size 4 (.slice A ts.length c) ts.length (fm ts)) (h2:Rd w w.heap.size 4 (.slice A' ts.length c') ts.length (fm ts)) :
    jJ 8 #[.slice A ts.length c,.slice A' ts.length c'] w (.bool true):=by
  have H0:=ac (ae h1 h2);clear h1 h2;go_enter Tryz.func8,Tryz.ntmps8;go_wp2;go_loopw [5] (fun i wr=>∃k:Nat,k≤ts.length∧i=.int .i64 k∧Below w.heap.size w wr) (fun i _=>ts.length-(intOf i).toNat)
  case atStart=>exact⟨0,bq _,rfl,ay _ _⟩
  case round=>
    obtain⟨k,hk,rfl,hb⟩:=hrel;by_cases hlt:k<ts.length
    ·have u1:(k:Int)<(ts.length:Int):=by omega
     have u2:(0:Int)≤(k:Int):=by omega
     obtain⟨t,ht⟩:∃t,ts[k]? = some t:=⟨_,ax hlt⟩;obtain⟨g,o,rfl,_,hc⟩:=fW gu (H0.out.1.keep hb (au _)) ht rfl;obtain⟨g',o',rfl,_,hc'⟩:=fW gu (H0.out.2.keep hb (au _)) ht rfl;have y0:wr.cell? ⟨g,o+k*4,none⟩=some (.int .i64 (t.kd:Int)):=hc 0 _ rfl;have y1:wr.cell? ⟨g,o+k*4+1,none⟩=some (.int .i64 (t.fr:Int)):=hc 1 _ rfl;have y2:wr.cell? ⟨g,o+k*4+2,none⟩=some (.int .i64 (t.tt:Int)):=hc 2 _ rfl;have y3:wr.cell? ⟨g,o+k*4+3,none⟩=some (.int .i64 t.up):=hc 3 _ rfl;have z0:wr.cell? ⟨g',o'+k*4,none⟩=some (.int .i64 (t.kd:Int)):=hc' 0 _ rfl;have z1:wr.cell? ⟨g',o'+k*4+1,none⟩=some (.int .i64 (t.fr:Int)):=hc' 1 _ rfl;have z2:wr.cell? ⟨g',o'+k*4+2,none⟩=some (.int .i64 (t.tt:Int)):=hc' 2 _ rfl;have z3:wr.cell? ⟨g',o'+k*4+3,none⟩=some (.int .i64 t.up):=hc' 3 _ rfl;have HB:=ac hb;clear hb hc hc' ht;go_wp2_with fail;go_quiet (fail);go_wp2_with fail;exact⟨⟨k+1,by omega,by go_num,dX HB.out _⟩,by simp[intOf]<;>omega⟩
    ·obtain rfl:k=ts.length:=by omega
     have HB:=ac hb;clear hb;go_wp2_with fail;go_ret;exact⟨rfl,HB.out⟩
def Do (F:List Lf) (z:Int):Bool:=decide (0≤z)&&decide (z<(F.length:Int))&&eN F (gO z.toNat)
theorem uT (F:List Lf) (z:Int) (fv:Value) (w:World) (hF:FB F) (hR:Rd w w.heap.size 4 fv F.length (gv F)) :
    jJ 18 #[fv,.int .i64 z] w (.bool (Do F z)):=by
  obtain⟨A,c,rfl⟩:=hR.formm;have HR:=ac hR;clear hR;obtain⟨b,hb⟩:∃b,b=Do F z:=⟨_,rfl⟩;rw[←hb];by_cases h0:z<0
  ·have hb2:b=false:=by rw[hb];unfold Do;rw[aE (by omega)];rfl
   subst hb2;have t0:decide (0≤z)=false:=aE (by omega);clear hb;go_enter Tryz.func18,Tryz.ntmps18;go_upto_region 2 with fail
   refine li fun W0 hb0 k0 hs0=>?_
   have HB:=ac hb0;clear hb0 k0 hs0;go_wp2_with fail;go_ret;exact⟨rfl,HB.out⟩
  ·by_cases h1:(F.length:Int)≤z
   ·have hb2:b=false:=by rw[hb];unfold Do;rw[aE (p:=z<_) (by omega),Bool.and_false];rfl
    subst hb2;clear hb;go_enter Tryz.func18,Tryz.ntmps18;go_upto_region 2 with fail
    refine li fun W0 hb0 k0 hs0=>?_
    have HB:=ac hb0;clear hb0 k0 hs0;go_wp2_with fail;go_ret;exact⟨rfl,HB.out⟩
   ·obtain⟨a,rfl⟩:∃a:Nat,z=(a:Int):=⟨z.toNat,by omega⟩;have ha:a<F.length:=by omega
    have hb2:b=eN F ⟨a,[],0,0⟩:=by rw[hb];unfold Do;rw[aG (by omega),aG (by omega),bJ];rfl
    have HC:=ac (fun W (h:Mk w.heap.size (.slice A F.length c) F ⟨a,[],0,0⟩ W)=>vY hF h (aM ha));have HBB:=ac hb2;have u1:(a:Int)<(F.length:Int):=by omega
    clear hb hb2 h0 h1;go_enter Tryz.func18,Tryz.ntmps18;go_upto_region 2 with fail
    refine li fun W0 hb0 k0 hs0=>?_
    have M0:Mk w.heap.size (.slice A F.length c) F ⟨a,[],0,0⟩ W0:=⟨⟨.slice none 0 0,k0,sL _ _ _ _⟩,HR.out.keep hb0 (au _)⟩;have HM:=ac (ae M0 hb0);clear hb0 k0 hs0 M0;go_wp2_with (
      (go_at_call 39;refine(HC.out _ HM.out.1).mono ?_;rintro e w1 ⟨rfl,hz⟩;have H1:=ac (HM.out.2.trans (hz.mono HM.out.2.size));clear hz))
    go_ret;exact⟨by rw[HBB.out];rfl,H1.out⟩
theorem z8 (F:List Lf) (z:Int) (fv:Value) (w:World) (hF:FB F) (hR:Rd w w.heap.size 4 fv F.length (gv F)) :
    Calls Tryz.prog 65 #[fv,.int .i64 z] w fun e w'=>(∃v p,e=.returned (.tuple #[v,.int .i64 p])∧((Do F z=false∧v=.slice none 0 0∧p=0)∨(Do F z=true∧p=((eO F z.toNat).p:Int)∧w'.ownsRow w.heap.size 52 4 v (eO F z.toNat).l.length (fm (eO F z.toNat).l))))∧Below w.heap.size w w':=by
  obtain⟨A,c,rfl⟩:=hR.formm;have hn:=hF.n;have c1:=uT F z _ w hF hR;have HR:=ac hR;clear hR
  cases hb:Do F z
  ·rw[hb] at c1;have HC:=ac c1;clear c1 hb;go_enter Tryz.func65,Tryz.ntmps65;go_wp2_with (
     (go_at_call 18;refine HC.out.mono ?_;rintro e w1 ⟨rfl,hz⟩;have H1:=ac hz;clear hz))
   go_ret2;exact⟨⟨_,_,rfl,.inl ⟨trivial,rfl,rfl⟩⟩,H1.out⟩
  ·rw[hb] at c1;unfold Do at hb;simp only[aR,bT] at hb;obtain⟨⟨h0,h1⟩,h2⟩:=hb;obtain⟨a,rfl⟩:∃a:Nat,z=(a:Int):=⟨z.toNat,by omega⟩;rw[bJ] at h2 ⊢;have hL:=fU F (F.length+1);have hB0:Bd F 20 (gO a):=⟨by show a≤_;omega,by show 0≤_;omega,by show 0≤200;omega⟩;have c2:∀g W,Mk g (.slice A F.length c) F (gO a) W→Calls Tryz.prog 51 #[.pointer (some ⟨g,0,none⟩),.int .i64 3,.func (.func 86) #[.pointer (some ⟨g,0,none⟩)] #[]] W fun e w'=>e=.returned (.tuple #[])∧Mz g (.slice A F.length c) F W (eO F a) w':=fun g W h=>
     oz (q:=0) hF hL (As hF (F.length+1) 0 (by omega)) h (bq _) hB0
   have HC:=ac (ae c1 c2);clear c1 c2 hL hB0 h0 h1 h2;go_enter Tryz.func65,Tryz.ntmps65;go_upto_region 4 with (
     (go_at_call 18;refine HC.out.1.mono ?_;rintro e w1 ⟨rfl,hz⟩;have H1:=ac hz;clear hz))
   refine li fun W0 hb0 k0 hs0=>?_
   obtain⟨g,hg⟩:∃g,g=w1.heap.size:=⟨_,rfl⟩;rw[←hg] at k0 ⊢;have hwg:w.heap.size≤g:=by rw[hg];exact H1.out.size
   have hBW:=H1.out.trans (hb0.mono H1.out.size);have M0:Mk g (.slice A F.length c) F (gO a) W0:=⟨⟨.slice none 0 0,k0,sL _ _ _ _⟩,(HR.out.keep hBW (au _)).mono hwg⟩;have HM:=ac (ae M0 hBW);clear hb0 k0 hs0 M0 hg hBW;go_wp2_with (
     (go_at_call 51;refine(HC.out.2 _ _ HM.out.1).mono ?_;rintro e w2 ⟨rfl,hz⟩;obtain⟨lv,kb,ko⟩:=hz.m.w;obtain⟨d0,d1,d2,d3,d4⟩:=kb.fivem;have gl9:=kb.lt;have H2:=ac (ae ko (HM.out.2.trans (hz.f.hb.mono hwg)));clear hz kb ko))
   try go_quiet (fail)
   go_wp2_with fail;go_ret2
   first
     | exact⟨⟨_,_,rfl,.inr ⟨trivial,rfl,iW H2.out.1 hwg⟩⟩,H2.out.2⟩
     | exact⟨⟨_,_,rfl,.inr ⟨trivial,rfl,iW H2.out.1 hwg⟩⟩,dX H2.out.2 _⟩
end Go.Proofs.YtmclohkaiemnaaaGreatDoor
