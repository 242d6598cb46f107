/- The parser: lists and programs. -/
import Derived.Test.YtcagfamdoaoimaaGreatDoorPz13
import Derived.Test.YtcagfamdoaoimaaGreatDoorEc9
import Derived.Test.YtcagfamdoaoimaaGreatDoorLa9
import Derived.Test.YtcagfamdoaoimaaGreatDoorLf9
set_option linter.unusedVariables false
set_option linter.unusedSimpArgs false
set_option maxRecDepth 100000
set_option maxHeartbeats 8000000
namespace Go.Proofs.YtcagfamdoaoimaaGreatDoor
open Go.RowKit
variable {b b':Bool} {F:List Lf} {g q:Nat} {s u T t:Ps} {L:Ps→Ps} {fv:Value} {W:World} (w:World) (B e:Nat) (l:List UInt8) (ts:List Tk) (sz:Nat)
theorem qF (hF:FB F) (hL:GL F L) (HL:gL g fv F L q) (h:Mk g fv F s W) (hq:q≤s.p+1) (hB:Bd F 20 s) :
    Calls Tryz.prog 58 #[.pointer (some ⟨g,0,none⟩),.int .i64 3,.func (.func 137) #[.pointer (some ⟨g,0,none⟩)] #[]] W fun e w'=>e=.returned (.tuple #[])∧Mz g fv F W (dN 3 (ff F L) s) w':=by
  have hi:=hB.inn 3;have hg:=pL hL hi.p;have hn:=hF.n;have h1:=hg.l;have h2:=hg.N;rw[oP] at h1;exact tU (t:=ff F L (fB 3 s)) 3 _ h (hB.l5 hF (by omega)) (by omega) (enters_of Tryz.func137 (by kernel_rfl) rfl) (fun W1 z1=>Kg hF hL HL z1.m hq (hi.mono (by omega))) (by omega) (by omega)
theorem Jt (hF:FB F) (hL:GL F L) (HL:gL g fv F L q) (h:Mk g fv F s W) (hq:q≤s.p+1) (hB:Bd F 20 s) :
    Calls Tryz.prog 102 #[.pointer (some ⟨g,0,none⟩)] W fun e w'=>e=.returned (.tuple #[])∧Mz g fv F W (mE F L s) w':=by
  obtain⟨T,hT⟩:∃T,T=mE F L s:=⟨_,rfl⟩;rw[←hT];have HT:=aa hT;clear hT;have H0:=aa (Mz.start h);clear h;go_enter Tryz.func102,Tryz.ntmps102;go_wp2_with fail;go_step3;go_wp2_with fail;go_step3;go_wp2_with fail;go_loopw [] (fun wr=>∃u:Ps,q≤u.p+1∧Bd F 20 u∧(eQ F.length (fun s=>iX F (dN 3 (ff F L) s))) u=(eQ F.length (fun s=>iX F (dN 3 (ff F L) s))) s∧Mz g fv F W u wr) (fun wr=>F.length-pOf g wr)
  case atStart=>exact⟨_,hq,hB,rfl,H0.out⟩
  case round=>
    obtain⟨u,hqu,hBu,hlu,hz⟩:=hrel;have U0:=aa hz;have HU:=aa hlu;have hup:=hz.m.pOf;have HP:=aa hup;clear hz hlu hup;have hgv:=Gd.node0 (k:=3) (s:=u) (f:=ff F L) (A:=2) (N:=F.length) fun t ht _=>pL hL (by rw[ht];exact hBu.p)
    have hBv:=hBu.gd hgv
    cases ha:dO F [59,38] (dN 3 (ff F L) u)
    ·cases hk:dO F [110] (dN 3 (ff F L) u)
     ·have e9:=aa (qK hBv.p hk);have HE:=aa (HU.out.symm.trans (LC.stepn (lp hL) hBu.p (t:=dN 3 (ff F L) u) (by show iX F (dN 3 (ff F L) u)=_;unfold iX;rw[aB (by rw[ha];decide),aB (by rw[hk];decide)])));have NC1:=aa (fun W1 (h1:Mk g fv F (u) W1)=>qF hF hL HL h1 hqu hBu);have NC2:=aa (fun W1 (h1:Mk g fv F (dN 3 (ff F L) u) W1)=>fz hF h1 hBv.p [59,38] (by decide) ha);have NC3:=aa (fun W1 (h1:Mk g fv F (dN 3 (ff F L) u) W1)=>lr hF h1 hBv.p hk)
      go_wp2_with (first
        | (go_at_call 58;with_reducible refine(NC1.out _ U0.out.m).mono (Mz.k U0 fun nw1 N1=>?_))
        | (go_at_call 100;with_reducible refine(NC2.out _ N1.out.m).mono (Mz.k N1 fun nw2 N2=>?_))
        | (go_at_call 138;with_reducible refine(NC3.out _ N2.out.m).mono (Mz.k N2 fun nw3 N3=>?_))
        | fail)
      try rw[bp]
      first|go_end0|refine az (aI rfl _ _ _) rfl ?_
      refine⟨rfl,?_⟩;rw[HT.out];unfold mE;rw[HE.out];rw[←e9.out];exact N3.out
     ·have hg3:=dZ (F:=F) hBv.p;have hB3:=hBv.gd hg3
      cases hp:fQ F (dJ F (dN 3 (ff F L) u))
      ·have HE:=aa (HU.out.symm.trans (LC.stepn (lp hL) hBu.p (t:=dJ F (dN 3 (ff F L) u)) (by show iX F (dN 3 (ff F L) u)=_;unfold iX;rw[aB (by rw[ha];decide),aE hk,hp])));have NC1:=aa (fun W1 (h1:Mk g fv F (u) W1)=>qF hF hL HL h1 hqu hBu);have NC2:=aa (fun W1 (h1:Mk g fv F (dN 3 (ff F L) u) W1)=>fz hF h1 hBv.p [59,38] (by decide) ha);have NC3:=aa (fun W1 (h1:Mk g fv F (dN 3 (ff F L) u) W1)=>jV hF h1 hBv.p hk);have NC4:=aa (fun W1 (h1:Mk g fv F (dJ F (dN 3 (ff F L) u)) W1)=>mq hF h1 hB3.p hp)
       go_wp2_with (first
         | (go_at_call 58;with_reducible refine(NC1.out _ U0.out.m).mono (Mz.k U0 fun nw1 N1=>?_))
         | (go_at_call 100;with_reducible refine(NC2.out _ N1.out.m).mono (Mz.k N1 fun nw2 N2=>?_))
         | (go_at_call 138;with_reducible refine(NC3.out _ N2.out.m).mono (Mz.k N2 fun nw3 N3=>?_))
         | (go_at_call 101;with_reducible refine(NC4.out _ N3.out.m).mono (Mz.k N3 fun nw4 N4=>?_))
         | fail)
       try rw[bp]
       first|go_end0|refine az (aI rfl _ _ _) rfl ?_
       refine⟨rfl,?_⟩;rw[HT.out];unfold mE;rw[HE.out];exact N4.out
      ·have hy:=LC.y (lp hL u hBu.p) (t:=dJ F (dN 3 (ff F L) u)) (by show iX F (dN 3 (ff F L) u)=_;unfold iX;rw[aB (by rw[ha];decide),aE hk,hp]);have HE:=aa ((LC.stepy (lp hL) hBu.p (t:=dJ F (dN 3 (ff F L) u)) (by show iX F (dN 3 (ff F L) u)=_;unfold iX;rw[aB (by rw[ha];decide),aE hk,hp])).symm.trans HU.out);have YC1:=aa (fun W1 (h1:Mk g fv F (u) W1)=>qF hF hL HL h1 hqu hBu);have YC2:=aa (fun W1 (h1:Mk g fv F (dN 3 (ff F L) u) W1)=>fz hF h1 hBv.p [59,38] (by decide) ha);have YC3:=aa (fun W1 (h1:Mk g fv F (dN 3 (ff F L) u) W1)=>jV hF h1 hBv.p hk);have YC4:=aa (fun W1 (h1:Mk g fv F (dJ F (dN 3 (ff F L) u)) W1)=>ml hF h1 hB3.p hp)
       go_wp2_with (first
         | (go_at_call 58;with_reducible refine(YC1.out _ U0.out.m).mono (Mz.k U0 fun yw1 Y1=>?_))
         | (go_at_call 100;with_reducible refine(YC2.out _ Y1.out.m).mono (Mz.k Y1 fun yw2 Y2=>?_))
         | (go_at_call 138;with_reducible refine(YC3.out _ Y2.out.m).mono (Mz.k Y2 fun yw3 Y3=>?_))
         | (go_at_call 101;with_reducible refine(YC4.out _ Y3.out.m).mono (Mz.k Y3 fun yw4 Y4=>?_))
         | fail)
       refine⟨⟨_,aA hqu (bE (bj hy.2)),hBu.gd hy.1,HE.out,Y4.out⟩,?_⟩;rw[Y4.out.m.pOf,HP.out]
       have:=hy.2
       have:=hy.1.N
       omega
    ·have hlt:=ek ha (by decide);have hn2:=hBv.next hlt (by omega);have hg3:=dZ (F:=F) hn2.p;have hB3:=hn2.gd hg3
     cases hp:fQ F (dJ F (dL (dN 3 (ff F L) u)))
     ·have HE:=aa (HU.out.symm.trans (LC.stepn (lp hL) hBu.p (t:=dJ F (dL (dN 3 (ff F L) u))) (by show iX F (dN 3 (ff F L) u)=_;unfold iX;rw[aE ha,hp])));have NC1:=aa (fun W1 (h1:Mk g fv F (u) W1)=>qF hF hL HL h1 hqu hBu);have NC2:=aa (fun W1 (h1:Mk g fv F (dN 3 (ff F L) u) W1)=>fR hF h1 hBv.p [59,38] (by decide) ha);have NC3:=aa (fun W1 (h1:Mk g fv F (dL (dN 3 (ff F L) u)) W1)=>fI hF h1 hn2.p);have NC4:=aa (fun W1 (h1:Mk g fv F (dJ F (dL (dN 3 (ff F L) u))) W1)=>mq hF h1 hB3.p hp)
      go_wp2_with (first
        | (go_at_call 58;with_reducible refine(NC1.out _ U0.out.m).mono (Mz.k U0 fun nw1 N1=>?_))
        | (go_at_call 100;with_reducible refine(NC2.out _ N1.out.m).mono (Mz.k N1 fun nw2 N2=>?_))
        | (go_at_call 138;with_reducible refine(NC3.out _ N2.out.m).mono (Mz.k N2 fun nw3 N3=>?_))
        | (go_at_call 101;with_reducible refine(NC4.out _ N3.out.m).mono (Mz.k N3 fun nw4 N4=>?_))
        | fail)
      try rw[bp]
      first|go_end0|refine az (aI rfl _ _ _) rfl ?_
      refine⟨rfl,?_⟩;rw[HT.out];unfold mE;rw[HE.out];exact N4.out
     ·have hy:=LC.y (lp hL u hBu.p) (t:=dJ F (dL (dN 3 (ff F L) u))) (by show iX F (dN 3 (ff F L) u)=_;unfold iX;rw[aE ha,hp]);have HE:=aa ((LC.stepy (lp hL) hBu.p (t:=dJ F (dL (dN 3 (ff F L) u))) (by show iX F (dN 3 (ff F L) u)=_;unfold iX;rw[aE ha,hp])).symm.trans HU.out);have YC1:=aa (fun W1 (h1:Mk g fv F (u) W1)=>qF hF hL HL h1 hqu hBu);have YC2:=aa (fun W1 (h1:Mk g fv F (dN 3 (ff F L) u) W1)=>fR hF h1 hBv.p [59,38] (by decide) ha);have YC3:=aa (fun W1 (h1:Mk g fv F (dL (dN 3 (ff F L) u)) W1)=>fI hF h1 hn2.p);have YC4:=aa (fun W1 (h1:Mk g fv F (dJ F (dL (dN 3 (ff F L) u))) W1)=>ml hF h1 hB3.p hp)
      go_wp2_with (first
        | (go_at_call 58;with_reducible refine(YC1.out _ U0.out.m).mono (Mz.k U0 fun yw1 Y1=>?_))
        | (go_at_call 100;with_reducible refine(YC2.out _ Y1.out.m).mono (Mz.k Y1 fun yw2 Y2=>?_))
        | (go_at_call 138;with_reducible refine(YC3.out _ Y2.out.m).mono (Mz.k Y2 fun yw3 Y3=>?_))
        | (go_at_call 101;with_reducible refine(YC4.out _ Y3.out.m).mono (Mz.k Y3 fun yw4 Y4=>?_))
        | fail)
      refine⟨⟨_,aA hqu (bE (bj hy.2)),hBu.gd hy.1,HE.out,Y4.out⟩,?_⟩;rw[Y4.out.m.pOf,HP.out]
      have:=hy.2
      have:=hy.1.N
      omega
theorem F6 {g:Nat} {fv:Value} {F:List Lf} (hF:FB F):∀n q,F.length+1≤n+q→gL g fv F (wM F n) q
  | 0,q,hn=>fun s W hq hB h=>by have:=hB.p;omega
  | n+1,q,hn=>fun s W hq hB h=>Jt (q:=q+1) hF (lT F n) (F6 hF n (q+1) (by omega)) h (by omega) hB
theorem yh (hL:GL F L) (h:u.p≤F.length) (hp:¬u.p<F.length):mj F L (u,b)=(u,b):=by
  have h0:sg F u.p=0:=by unfold sg;rw[cx (by omega)]
  have c1:dO F [110] u=false:=by unfold dO;rw[h0];rfl
  have c2:fQ F u=false:=Bool.eq_false_iff.2 fun h=>hp (B9 h)
  have e:gh F L (u,b)=((u,b),false):=by
    unfold gh;simp only[c1,c2,Bool.and_false,br,aK];rw[aB hp]
  rw[tB hL _ h,e];rfl
structure Pg (F:List Lf) (L:Ps→Ps) (T u:Ps) (b:Bool):Prop where
  p:u.p≤F.length
  d:u.deep≤200
  l:u.l.length+(if b=true then 0 else 4)≤16*u.p+5
  t:(mj F L (u,b)).1=T
theorem Pg.bd (h:Pg F L T u b):Bd F 5 u:=⟨h.p,by have:=h.l;omega,h.d⟩
theorem Pg.step (hL:GL F L) (h:Pg F L T u b) (e:gh F L (u,b)=((t,b'),true)):Pg F L T t b'∧iL (u,b)<iL (t,b'):=by
  have h1:=qw hL (u,b) h.p (by rw[e]);rw[e] at h1;obtain⟨h2,h3,h4,h5⟩:=h1;replace h3:t.p≤F.length:=h3;replace h5:t.l.length+16*u.p+(if b'=true then 0 else 4)≤u.l.length+16*t.p+(if b=true then 0 else 4):=h5;refine⟨⟨h3,by have:=h4.dp;show t.deep≤200;rw[this];exact h.d,by have:=h.l;omega,?_⟩,h2⟩;rw[←h.t,tB hL (u,b) h.p,e];rfl
def Mh (v:Value):Nat:=match v with | .bool true=>1|_=>0
theorem Dd (hF:FB F) (hL:GL F L) (HL:gL g fv F L q) (h:Mk g fv F s W) (hq:q=0) (hB:Bd F 5 s) (hPg:Pg F L T s false) :
    Calls Tryz.prog 59 #[.pointer (some ⟨g,0,none⟩)] W fun e w'=>e=.returned (.tuple #[])∧Mz g fv F W (T) w':=by
  have hn:=hF.n;have H0:=aa (Mz.start h);clear h hB;go_enter Tryz.func59,Tryz.ntmps59;go_wp2_with fail;go_loopw [2] (fun v wr=>∃(u:Ps) (b:Bool),v=.bool b∧Pg F L T u b∧Mz g fv F W u wr) (fun v wr=>2*F.length+2-(2*pOf g wr+Mh v))
  case atStart=>exact⟨s,false,rfl,hPg,H0.out⟩
  case round=>
    obtain⟨u,b,rfl,hPu,hz⟩:=hrel;have U0:=aa hz;have hup:=hz.m.pOf;have HP:=aa hup;have HS:=aa hPu;have hBu:=hPu.bd;obtain⟨y0,y1,_⟩:=hz.m.cells;obtain⟨A,c,hfv⟩:=hz.m.f.formm;rw[hfv] at y0;have hup:=hPu.p;clear hz hPu hfv;have qd:∀n,Mz g fv F W u (wr.drewN n):=fun n=>U0.out.drew n
    have QD:=aa qd;clear qd;by_cases hlt:u.p<F.length
    ·have u1:(u.p:Int)<(F.length:Int):=by omega
     have d1:decide ((u.p:Int)<(F.length:Int))=true:=aJ u1
     cases hc:dO F [110] u
     ·cases b
      ·cases hp:fQ F u
       ·have hst:=HS.out.step hL (t:=eC 17 u) (b':=false) (by unfold gh;simp only[hc,hp,hlt,Bool.and_false,bW,br,aK]);have HG:=aa hst;clear hst;have NC1:=aa (fun W1 (h1:Mk g fv F (u) W1)=>fz hF h1 hBu.p [110] (by decide) hc);have NC2:=aa (fun W1 (h1:Mk g fv F (u) W1)=>mq hF h1 hBu.p hp);have NC3:=aa (fun W1 (h1:Mk g fv F (u) W1)=>yO hF h1 (hBu.mono (by omega)) hlt);go_wp2_with fail;go_quiet (fail);have D0:=aa (QD.out nq)
        go_wp2_with (first
          | (go_at_call 100;with_reducible refine(NC1.out _ D0.out.m).mono (Mz.k D0 fun nw1 N1=>?_))
          | (go_at_call 101;with_reducible refine(NC2.out _ N1.out.m).mono (Mz.k N1 fun nw2 N2=>?_))
          | (go_at_call 103;with_reducible refine(NC3.out _ N2.out.m).mono (Mz.k N2 fun nw3 N3=>?_))
          | fail)
        refine⟨⟨_,_,rfl,HG.out.1,N3.out⟩,?_⟩;rw[N3.out.m.pOf,HP.out];have h1:=HG.out.2;have h2:=HG.out.1.p;unfold iL at h1;simp only[aK,bW,br] at h1;simp only[Mh];omega
       ·have hst:=HS.out.step hL (t:=dN 2 L u) (b':=true) (by unfold gh;simp only[hc,hp,Bool.not_false,cJ,Bool.and_self,bW,br,aK]);have HG:=aa hst;clear hst;have NC1:=aa (fun W1 (h1:Mk g fv F (u) W1)=>fz hF h1 hBu.p [110] (by decide) hc);have NC2:=aa (fun W1 (h1:Mk g fv F (u) W1)=>ml hF h1 hBu.p hp);have NC3:=aa (fun W1 (h1:Mk g fv F (u) W1)=>wH hF hL HL h1 (by omega) (hBu.mono (by omega)));go_wp2_with fail;go_quiet (fail);have D0:=aa (QD.out nq)
        go_wp2_with (first
          | (go_at_call 100;with_reducible refine(NC1.out _ D0.out.m).mono (Mz.k D0 fun nw1 N1=>?_))
          | (go_at_call 101;with_reducible refine(NC2.out _ N1.out.m).mono (Mz.k N1 fun nw2 N2=>?_))
          | (go_at_call 58;with_reducible refine(NC3.out _ N2.out.m).mono (Mz.k N2 fun nw3 N3=>?_))
          | fail)
        refine⟨⟨_,_,rfl,HG.out.1,N3.out⟩,?_⟩;rw[N3.out.m.pOf,HP.out];have h1:=HG.out.2;have h2:=HG.out.1.p;unfold iL at h1;simp only[aK,bW,br] at h1;simp only[Mh];omega
      ·have hst:=HS.out.step hL (t:=eC 17 u) (b':=false) (by unfold gh;simp only[hc,hlt,Bool.not_true,cN,bW,br,aK]);have HG:=aa hst;clear hst;have NC1:=aa (fun W1 (h1:Mk g fv F (u) W1)=>fz hF h1 hBu.p [110] (by decide) hc);have NC2:=aa (fun W1 (h1:Mk g fv F (u) W1)=>yO hF h1 (hBu.mono (by omega)) hlt);go_wp2_with fail;go_quiet (fail);have D0:=aa (QD.out nq)
       go_wp2_with (first
         | (go_at_call 100;with_reducible refine(NC1.out _ D0.out.m).mono (Mz.k D0 fun nw1 N1=>?_))
         | (go_at_call 103;with_reducible refine(NC2.out _ N1.out.m).mono (Mz.k N1 fun nw2 N2=>?_))
         | fail)
       refine⟨⟨_,_,rfl,HG.out.1,N2.out⟩,?_⟩;rw[N2.out.m.pOf,HP.out];have h1:=HG.out.2;have h2:=HG.out.1.p;unfold iL at h1;simp only[aK,bW,br] at h1;simp only[Mh];omega
     ·cases b
      ·have hst:=HS.out.step hL (t:=dL u) (b':=false) (by unfold gh;simp only[hc,bW]);have HG:=aa hst;clear hst;have NC1:=aa (fun W1 (h1:Mk g fv F (u) W1)=>fR hF h1 hBu.p [110] (by decide) hc);go_wp2_with fail;go_quiet (fail);have D0:=aa (QD.out nq);go_wp2_with (
         (go_at_call 100;with_reducible refine(NC1.out _ D0.out.m).mono (Mz.k D0 fun nw1 N1=>?_)))
       refine⟨⟨_,_,rfl,HG.out.1,N1.out⟩,?_⟩;rw[N1.out.m.pOf,HP.out];have h1:=HG.out.2;have h2:=HG.out.1.p;unfold iL at h1;simp only[aK,bW,br] at h1;simp only[Mh];omega
      ·have hst:=HS.out.step hL (t:=dL u) (b':=true) (by unfold gh;simp only[hc,bW]);have HG:=aa hst;clear hst;have NC1:=aa (fun W1 (h1:Mk g fv F (u) W1)=>fR hF h1 hBu.p [110] (by decide) hc);go_wp2_with fail;go_quiet (fail);have D0:=aa (QD.out nq);go_wp2_with (
         (go_at_call 100;with_reducible refine(NC1.out _ D0.out.m).mono (Mz.k D0 fun nw1 N1=>?_)))
       refine⟨⟨_,_,rfl,HG.out.1,N1.out⟩,?_⟩;rw[N1.out.m.pOf,HP.out];have h1:=HG.out.2;have h2:=HG.out.1.p;unfold iL at h1;simp only[aK,bW,br] at h1;simp only[Mh];omega
    ·have u1:¬(u.p:Int)<(F.length:Int):=by omega
     have d1:decide ((u.p:Int)<(F.length:Int))=false:=aU u1;go_wp2_with fail;go_quiet (fail);go_wp2_with fail;first|go_end0|refine az (aI rfl _ _ _) rfl ?_
     exact⟨rfl,by rw[←HS.out.t,yh hL hup hlt];exact QD.out _⟩
theorem Cc:w.ownsRow B e sz (.slice none 0 0) 0 []:=⟨by simp,.inl ⟨rfl,rfl⟩⟩
theorem Dm (F:List Lf):(fP F).l.length≤16*F.length+5:=by
  obtain⟨h1,h2⟩:=Gv F;have h3:=h1.b;rw[h2] at h3;have e1:(ki 0).l.length=0:=rfl;have e2:(ki 0).p=0:=rfl;omega
theorem Ca (F:List Lf) (fv:Value) (w:World) (hF:FB F) (hR:Rd w w.heap.size 4 fv F.length (iZ F)) :
    Calls Tryz.prog 33 #[fv] w fun e w'=>∃v,e=.returned v∧w'.ownsRow w.heap.size 56 4 v (fP F).l.length (gz (fP F).l)∧Below w.heap.size w w':=by
  have hL:=lT F (F.length+1);have hi:Bd F 1 (fB 1 (ki 0)):=⟨bK _,by show (([]:List Nd)++[_]).length≤46*0+1;simp,by show 0≤200;omega⟩;have hg:=qR hL _ (fB 1 (ki 0),false) rfl hi.p;have hn:=hF.n;have hx:∀W0,Mk w.heap.size fv F (ki 0) W0→Calls Tryz.prog 58 #[.pointer (some ⟨w.heap.size,0,none⟩),.int .i64 1,.func (.func 59) #[.pointer (some ⟨w.heap.size,0,none⟩)] #[]] W0 fun e w'=>e=.returned (.tuple #[])∧Mz w.heap.size fv F W0 (fP F) w':=fun W0 h0=>by
    have h1:=hg.1.l;have h2:=hg.2;have h3:(fB 1 (ki 0)).l.length=1:=rfl;rw[h3] at h1
    exact tU (t:=(mj F (MY F) (fB 1 (ki 0),false)).1) 1 _ h0 (by show 0≤50000;omega) (by omega) (enters_of Tryz.func59 (by kernel_rfl) rfl)
      (fun W1 z1=>Dd (q:=0) hF hL (F6 hF (F.length+1) 0 (by omega)) z1.m rfl (hi.mono (by omega)) ⟨hi.p,hi.d,by show 1+4≤16*0+5;omega,rfl⟩) (bA Nat.zero_lt_one h1) (by show (mj F (wM F (F.length+1)) (fB 1 (ki 0),false)).1.p≤100000;rw[h2];omega)
  obtain⟨A,c,rfl⟩:=hR.formm;have HX:=aa hx;have HR:=aa hR;clear hx hR hg hi hL;go_enter Tryz.func33,Tryz.ntmps33;go_upto_region 2 with fail
  refine jX fun W0 hb0 k0 hs0=>?_
  have M0:Mk w.heap.size _ F (ki 0) W0:=⟨⟨.slice none 0 0,k0,Cc _ _ _ _⟩,HR.out.keep hb0 (an _)⟩;have HM:=aa M0;have HB:=aa hb0;clear hb0 k0 hs0 M0;go_wp2_with (
    (go_at_call 58;refine(HX.out _ HM.out).mono ?_;rintro e w1 ⟨rfl,hz⟩;obtain⟨lv,hb1,ho1⟩:=hz.m.w;obtain⟨c0,c1,c2,c3,c4⟩:=hb1.fivem;have H1:=aa (ac hz.f.hb ho1);clear hz hb1 ho1))
  go_ret;exact⟨_,rfl,H1.out.2,HB.out.trans H1.out.1⟩
def td (t:Tk):Tz:=⟨t.kd,t.fr,t.to,t.op⟩
theorem xD:jw ts=(ts.map td).flatMap Md:=by
  unfold jw;rw[List.flatMap_map];rfl
def mD (l:List UInt8):List Lf:=fN l ((iR l).1.map td)
theorem AZ (ts:List Tz):∀x∈fN l ts,x.tx.length≤l.length:=by
  intro x hx;obtain⟨t,_,ht⟩:=List.mem_flatMap.1 hx;unfold lR at ht;split at ht
  ·simp only[List.mem_singleton] at ht;subst ht;show (Iu l t).length≤_;unfold Iu;split
   ·unfold sub;rw[List.length_drop,cg];omega
   ·exact bK _
  ·simp at ht
theorem wL (hl:l.length≤900):FB (mD l):=by
  refine⟨?_,fun x hx=>aA (AZ l _ x hx) (by omega)⟩;have h1:=lQ l ((iR l).1.map td);have h2:=nS l;rw[cC] at h1;exact aA h1 (by omega)
theorem MD (w:World) (hl:l.length≤900) :
    Calls Tryz.prog 11 #[.string ⟨l.toArray⟩] w fun e w'=>∃v1 v2,e=.returned (.tuple #[v1,v2])∧w'.ownsRow w.heap.size 29 4 v1 (mD l).length (iZ (mD l))∧w'.ownsRow w.heap.size 56 4 v2 (fP (mD l)).l.length (gz (fP (mD l)).l)∧Below w.heap.size w w':=by
  have c1:=fun W=>Kv l W hl
  have c2:=fun (A:Option Addr) (c:Nat) W (hR:Rd W W.heap.size 4 (.slice A ((iR l).1.map td).length c) ((iR l).1.map td).length (((iR l).1.map td).flatMap Md))=>yM l ((iR l).1.map td) A c W (by omega) (by rw[cC];have:=nS l;omega) hR
  have c3:=fun fv W (hR:Rd W W.heap.size 4 fv (mD l).length (iZ (mD l)))=>Ca (mD l) fv W (wL l hl) hR
  have e1:jw (iR l).1=((iR l).1.map td).flatMap Md:=xD _;have e2:(iR l).1.length=((iR l).1.map td).length:=by rw[cC]
  rw[e1,e2] at c1;rw[show fN l ((iR l).1.map td)=mD l from rfl] at c2;obtain⟨Z,hZ⟩:∃Z,Z=(iR l).1.map td:=⟨_,rfl⟩;obtain⟨Y,hY⟩:∃Y,Y=(iR l).2:=⟨_,rfl⟩;rw[←hZ] at c1 c2;rw[←hY] at c1;have HC:=aa (ac c1 (ac c2 c3));clear c1 c2 c3 e1 e2 hZ hY;go_enter Tryz.func11,Tryz.ntmps11
  go_wp2_with (first
    | (go_at_call 31;refine(HC.out.1 _).mono ?_;rintro e w1 ⟨v1,v2,rfl,ho,⟨v3,rfl,hr⟩,hb⟩;obtain⟨A1,n1,c1,rfl⟩:=dR ho;obtain rfl:=eF ho;obtain⟨A3,c3,rfl⟩:=hr.form;unfold ir;have H1:=aa (ac ho hb);clear ho hb hr)
    | (go_at_call 32;have hba:Below w1.heap.size w1 (w1.alloc (.cells #[.int .i64 Y.aw,.slice A3 Y.pd.length c3,.bool Y.bd] 49)):=(aD _ w1).alloc (an _) _;refine(HC.out.2.1 _ _ _ (Rd.of_own (dQ H1.out.1 hba))).mono ?_;rintro e w2 ⟨v,rfl,ho,hb⟩;have H2:=aa (ac (fF ho (show w.heap.size≤_ from aA H1.out.2.size hba.size)) (H1.out.2.trans ((hba.trans (hb.mono hba.size)).mono H1.out.2.size)));clear ho hb hba)
    | (go_at_call 33;refine(HC.out.2.2 _ _ (Rd.of_own H2.out.1)).mono ?_;rintro e w3 ⟨v3,rfl,ho,hb⟩;have H3:=aa (ac (dQ H2.out.1 hb) (ac (fF ho H2.out.2.size) (H2.out.2.trans (hb.mono H2.out.2.size))));clear ho hb)
    | fail)
  go_ret2;exact⟨_,_,rfl,H3.out⟩
end Go.Proofs.YtcagfamdoaoimaaGreatDoor
