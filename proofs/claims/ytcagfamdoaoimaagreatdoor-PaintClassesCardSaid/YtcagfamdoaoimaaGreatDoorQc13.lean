/- The parser: lists and programs. -/
import Derived.Test.YtcagfamdoaoimaaGreatDoorPz13
import Derived.Test.YtcagfamdoaoimaaGreatDoorEc9
import Derived.Test.YtcagfamdoaoimaaGreatDoorLa9
import Derived.Test.YtcagfamdoaoimaaGreatDoorPl13
import Derived.Test.YtcagfamdoaoimaaGreatDoorRg8
set_option linter.unusedVariables false
set_option linter.unusedSimpArgs false
set_option maxRecDepth 100000
set_option maxHeartbeats 8000000
namespace Go.Proofs.YtcagfamdoaoimaaGreatDoor
open Go.RowKit
variable {b b':Bool} {F:List Lf} {g q:Nat} {s u T:Ps} {L:Ps→Ps} {fv:Value} {W:World} (w:World) (B e:Nat) (ts:List Tk) (l:List UInt8) (a sz:Nat)
theorem qK (hF:FB F) (hL:GL F L) (HL:gM g fv F L q) (h:Mk g fv F s W) (hq:q≤s.p+1) (hB:Bd F 20 s) :
    Calls Tryz.prog 58 #[.pointer (some ⟨g,0,none⟩),.int .i64 3,.func (.func 137) #[.pointer (some ⟨g,0,none⟩)] #[]] W fun e w'=>e=.returned (.tuple #[])∧Mz g fv F W (dN 3 (eT F L) s) w':=by
  have hi:=hB.inn 3;have hg:=nY hL hi.p;have hn:=hF.n;have h1:=hg.l;have h2:=hg.N;rw[oU] at h1;exact tT (t:=eT F L (fC 3 s)) 3 _ h (hB.l5 hF (by omega)) (by omega) (enters_of Tryz.func137 (by kernel_rfl) rfl) (fun W1 z1=>Km hF hL HL z1.m hq (hi.mono (by omega))) (by omega) (by omega)
theorem Jv (hF:FB F) (hL:GL F L) (HL:gM g fv F L q) (h:Mk g fv F s W) (hq:q≤s.p+1) (hB:Bd F 20 s) :
    lQ 102 g fv F W (.tuple #[]) (mt F L s):=by
  obtain⟨T,hT⟩:∃T,T=mt F L s:=⟨_,rfl⟩;rw[←hT];have HT:=aa hT;clear hT;have H0:=aa (Mz.start h);clear h;go_enter Tryz.func102,Tryz.ntmps102;go_wp2_with fail;go_step3;go_wp2_with fail;go_step3;go_wp2_with fail;go_loopw [] (fun wr=>∃u:Ps,q≤u.p+1∧Bd F 20 u∧(eM F.length (fun s=>iQ F (dN 3 (eT F L) s))) u=(eM F.length (fun s=>iQ F (dN 3 (eT F L) s))) s∧Mz g fv F W u wr) (fun wr=>F.length-pOf g wr)
  case atStart=>exact⟨_,hq,hB,rfl,H0.out⟩
  case round=>
    obtain⟨u,hqu,hBu,hlu,hz⟩:=hrel;have U0:=aa hz;have HU:=aa hlu;have hup:=hz.m.pOf;have HP:=aa hup;clear hz hlu hup;have hgv:=Gd.node0 (k:=3) (s:=u) (f:=eT F L) (A:=2) (N:=F.length) fun t ht _=>nY hL (by rw[ht];exact hBu.p)
    have hBv:=hBu.gd hgv
    cases ha:dO F [59,38] (dN 3 (eT F L) u)
    ·cases hk:dO F [110] (dN 3 (eT F L) u)
     ·have e9:=aa (qP hBv.p hk);have HE:=aa (HU.out.symm.trans (LC.stepn (kQ hL) hBu.p (t:=dN 3 (eT F L) u) (by show iQ F (dN 3 (eT F L) u)=_;unfold iQ;rw[aB (by rw[ha];decide),aB (by rw[hk];decide)])));have NC1:=aa (fun W1 (h1:Mk g fv F (u) W1)=>qK hF hL HL h1 hqu hBu);have NC2:=aa (fun W1 (h1:Mk g fv F (dN 3 (eT F L) u) W1)=>fz hF h1 hBv.p [59,38] (by decide) ha);have NC3:=aa (fun W1 (h1:Mk g fv F (dN 3 (eT F L) u) W1)=>lD hF h1 hBv.p hk)
      go_wp2_with (first
        | (go_at_call 58;with_reducible refine(NC1.out _ U0.out.m).mono (Mz.k U0 fun nw1 N1=>?_))
        | (go_at_call 100;with_reducible refine(NC2.out _ N1.out.m).mono (Mz.k N1 fun nw2 N2=>?_))
        | (go_at_call 138;with_reducible refine(NC3.out _ N2.out.m).mono (Mz.k N2 fun nw3 N3=>?_))
        | fail)
      try rw[bc]
      first|go_end0|refine bn ?_
      refine⟨rfl,?_⟩;rw[HT.out];unfold mt;rw[HE.out];rw[←e9.out];exact N3.out
     ·have hg3:=dW (F:=F) hBv.p;have hB3:=hBv.gd hg3
      cases hp:fM F (dJ F (dN 3 (eT F L) u))
      ·have HE:=aa (HU.out.symm.trans (LC.stepn (kQ hL) hBu.p (t:=dJ F (dN 3 (eT F L) u)) (by show iQ F (dN 3 (eT F L) u)=_;unfold iQ;rw[aB (by rw[ha];decide),aC hk,hp])));have NC1:=aa (fun W1 (h1:Mk g fv F (u) W1)=>qK hF hL HL h1 hqu hBu);have NC2:=aa (fun W1 (h1:Mk g fv F (dN 3 (eT F L) u) W1)=>fz hF h1 hBv.p [59,38] (by decide) ha);have NC3:=aa (fun W1 (h1:Mk g fv F (dN 3 (eT F L) u) W1)=>kg hF h1 hBv.p hk);have NC4:=aa (fun W1 (h1:Mk g fv F (dJ F (dN 3 (eT F L) u)) W1)=>mI hF h1 hB3.p hp)
       go_wp2_with (first
         | (go_at_call 58;with_reducible refine(NC1.out _ U0.out.m).mono (Mz.k U0 fun nw1 N1=>?_))
         | (go_at_call 100;with_reducible refine(NC2.out _ N1.out.m).mono (Mz.k N1 fun nw2 N2=>?_))
         | (go_at_call 138;with_reducible refine(NC3.out _ N2.out.m).mono (Mz.k N2 fun nw3 N3=>?_))
         | (go_at_call 101;with_reducible refine(NC4.out _ N3.out.m).mono (Mz.k N3 fun nw4 N4=>?_))
         | fail)
       try rw[bc]
       first|go_end0|refine bn ?_
       refine⟨rfl,?_⟩;rw[HT.out];unfold mt;rw[HE.out];exact N4.out
      ·have hy:=LC.y (kQ hL u hBu.p) (t:=dJ F (dN 3 (eT F L) u)) (by show iQ F (dN 3 (eT F L) u)=_;unfold iQ;rw[aB (by rw[ha];decide),aC hk,hp]);have HE:=aa ((LC.stepy (kQ hL) hBu.p (t:=dJ F (dN 3 (eT F L) u)) (by show iQ F (dN 3 (eT F L) u)=_;unfold iQ;rw[aB (by rw[ha];decide),aC hk,hp])).symm.trans HU.out);have YC1:=aa (fun W1 (h1:Mk g fv F (u) W1)=>qK hF hL HL h1 hqu hBu);have YC2:=aa (fun W1 (h1:Mk g fv F (dN 3 (eT F L) u) W1)=>fz hF h1 hBv.p [59,38] (by decide) ha);have YC3:=aa (fun W1 (h1:Mk g fv F (dN 3 (eT F L) u) W1)=>kg hF h1 hBv.p hk);have YC4:=aa (fun W1 (h1:Mk g fv F (dJ F (dN 3 (eT F L) u)) W1)=>mH hF h1 hB3.p hp)
       go_wp2_with (first
         | (go_at_call 58;with_reducible refine(YC1.out _ U0.out.m).mono (Mz.k U0 fun yw1 Y1=>?_))
         | (go_at_call 100;with_reducible refine(YC2.out _ Y1.out.m).mono (Mz.k Y1 fun yw2 Y2=>?_))
         | (go_at_call 138;with_reducible refine(YC3.out _ Y2.out.m).mono (Mz.k Y2 fun yw3 Y3=>?_))
         | (go_at_call 101;with_reducible refine(YC4.out _ Y3.out.m).mono (Mz.k Y3 fun yw4 Y4=>?_))
         | fail)
       refine⟨⟨_,aA hqu (bv (bj hy.2)),hBu.gd hy.1,HE.out,Y4.out⟩,?_⟩;rw[Y4.out.m.pOf,HP.out]
       have:=hy.2
       have:=hy.1.N
       omega
    ·have hlt:=dX ha (by decide);have hn2:=hBv.next hlt (by omega);have hg3:=dW (F:=F) hn2.p;have hB3:=hn2.gd hg3
     cases hp:fM F (dJ F (dL (dN 3 (eT F L) u)))
     ·have HE:=aa (HU.out.symm.trans (LC.stepn (kQ hL) hBu.p (t:=dJ F (dL (dN 3 (eT F L) u))) (by show iQ F (dN 3 (eT F L) u)=_;unfold iQ;rw[aC ha,hp])));have NC1:=aa (fun W1 (h1:Mk g fv F (u) W1)=>qK hF hL HL h1 hqu hBu);have NC2:=aa (fun W1 (h1:Mk g fv F (dN 3 (eT F L) u) W1)=>fV hF h1 hBv.p [59,38] (by decide) ha);have NC3:=aa (fun W1 (h1:Mk g fv F (dL (dN 3 (eT F L) u)) W1)=>fK hF h1 hn2.p);have NC4:=aa (fun W1 (h1:Mk g fv F (dJ F (dL (dN 3 (eT F L) u))) W1)=>mI hF h1 hB3.p hp)
      go_wp2_with (first
        | (go_at_call 58;with_reducible refine(NC1.out _ U0.out.m).mono (Mz.k U0 fun nw1 N1=>?_))
        | (go_at_call 100;with_reducible refine(NC2.out _ N1.out.m).mono (Mz.k N1 fun nw2 N2=>?_))
        | (go_at_call 138;with_reducible refine(NC3.out _ N2.out.m).mono (Mz.k N2 fun nw3 N3=>?_))
        | (go_at_call 101;with_reducible refine(NC4.out _ N3.out.m).mono (Mz.k N3 fun nw4 N4=>?_))
        | fail)
      try rw[bc]
      first|go_end0|refine bn ?_
      refine⟨rfl,?_⟩;rw[HT.out];unfold mt;rw[HE.out];exact N4.out
     ·have hy:=LC.y (kQ hL u hBu.p) (t:=dJ F (dL (dN 3 (eT F L) u))) (by show iQ F (dN 3 (eT F L) u)=_;unfold iQ;rw[aC ha,hp]);have HE:=aa ((LC.stepy (kQ hL) hBu.p (t:=dJ F (dL (dN 3 (eT F L) u))) (by show iQ F (dN 3 (eT F L) u)=_;unfold iQ;rw[aC ha,hp])).symm.trans HU.out);have YC1:=aa (fun W1 (h1:Mk g fv F (u) W1)=>qK hF hL HL h1 hqu hBu);have YC2:=aa (fun W1 (h1:Mk g fv F (dN 3 (eT F L) u) W1)=>fV hF h1 hBv.p [59,38] (by decide) ha);have YC3:=aa (fun W1 (h1:Mk g fv F (dL (dN 3 (eT F L) u)) W1)=>fK hF h1 hn2.p);have YC4:=aa (fun W1 (h1:Mk g fv F (dJ F (dL (dN 3 (eT F L) u))) W1)=>mH hF h1 hB3.p hp)
      go_wp2_with (first
        | (go_at_call 58;with_reducible refine(YC1.out _ U0.out.m).mono (Mz.k U0 fun yw1 Y1=>?_))
        | (go_at_call 100;with_reducible refine(YC2.out _ Y1.out.m).mono (Mz.k Y1 fun yw2 Y2=>?_))
        | (go_at_call 138;with_reducible refine(YC3.out _ Y2.out.m).mono (Mz.k Y2 fun yw3 Y3=>?_))
        | (go_at_call 101;with_reducible refine(YC4.out _ Y3.out.m).mono (Mz.k Y3 fun yw4 Y4=>?_))
        | fail)
      refine⟨⟨_,aA hqu (bv (bj hy.2)),hBu.gd hy.1,HE.out,Y4.out⟩,?_⟩;rw[Y4.out.m.pOf,HP.out]
      have:=hy.2
      have:=hy.1.N
      omega
theorem F8 {g:Nat} {fv:Value} {F:List Lf} (hF:FB F):∀n q,F.length+1≤n+q→gM g fv F (uT F n) q
  | 0,q,hn=>fun s W hq hB h=>by have:=hB.p;omega
  | n+1,q,hn=>fun s W hq hB h=>Jv (q:=q+1) hF (jQ F n) (F8 hF n (q+1) (by omega)) h (by omega) hB
theorem x8 (hL:GL F L) (h:u.p≤F.length) (hp:¬u.p<F.length):l8 F L (u,b)=(u,b):=by
  have h0:sg F u.p=0:=by unfold sg;rw[bZ (by omega)]
  have c1:dO F [110] u=false:=by unfold dO;rw[h0];rfl
  have c2:fM F u=false:=Bool.eq_false_iff.2 fun h=>hp (BY h)
  have e:fR F L (u,b)=((u,b),false):=by
    unfold fR;simp only[c1,c2,Bool.and_false,bu,aK];rw[aB hp]
  rw[qD hL _ h,e];rfl
structure Pg (F:List Lf) (L:Ps→Ps) (T u:Ps) (b:Bool):Prop where
  p:u.p≤F.length
  d:u.deep≤200
  l:u.l.length+(if b=true then 0 else 4)≤16*u.p+5
  t:(l8 F L (u,b)).1=T
theorem Pg.bd (h:Pg F L T u b):Bd F 5 u:=⟨h.p,by have:=h.l;omega,h.d⟩
theorem Pg.step {t:Ps} (hL:GL F L) (h:Pg F L T u b) (e:fR F L (u,b)=((t,b'),true)):Pg F L T t b'∧iY (u,b)<iY (t,b'):=by
  have h1:=nO hL (u,b) h.p (by rw[e]);rw[e] at h1;obtain⟨h2,h3,h4,h5⟩:=h1;replace h3:t.p≤F.length:=h3;replace h5:t.l.length+16*u.p+(if b'=true then 0 else 4)≤u.l.length+16*t.p+(if b=true then 0 else 4):=h5;refine⟨⟨h3,by have:=h4.dp;show t.deep≤200;rw[this];exact h.d,by have:=h.l;omega,?_⟩,h2⟩;rw[←h.t,qD hL (u,b) h.p,e];rfl
def MR (v:Value):Nat:=match v with | .bool true=>1|_=>0
theorem Da (hF:FB F) (hL:GL F L) (HL:gM g fv F L q) (h:Mk g fv F s W) (hq:q=0) (hB:Bd F 5 s) (hPg:Pg F L T s false) :
    lQ 59 g fv F W (.tuple #[]) (T):=by
  have hn:=hF.n;have H0:=aa (Mz.start h);clear h hB;go_enter Tryz.func59,Tryz.ntmps59;go_wp2_with fail;go_loopw [2] (fun v wr=>∃(u:Ps) (b:Bool),v=.bool b∧Pg F L T u b∧Mz g fv F W u wr) (fun v wr=>2*F.length+2-(2*pOf g wr+MR v))
  case atStart=>exact⟨s,false,rfl,hPg,H0.out⟩
  case round=>
    obtain⟨u,b,rfl,hPu,hz⟩:=hrel;have U0:=aa hz;have hup:=hz.m.pOf;have HP:=aa hup;have HS:=aa hPu;have hBu:=hPu.bd;obtain⟨y0,y1,_⟩:=hz.m.cells;obtain⟨A,c,hfv⟩:=hz.m.f.formm;rw[hfv] at y0;have hup:=hPu.p;clear hz hPu hfv;have qd:∀n,Mz g fv F W u (wr.drewN n):=fun n=>U0.out.drew n
    have QD:=aa qd;clear qd;by_cases hlt:u.p<F.length
    ·have u1:(u.p:Int)<(F.length:Int):=by omega
     have d1:decide ((u.p:Int)<(F.length:Int))=true:=aI u1
     cases hc:dO F [110] u
     ·cases b
      ·cases hp:fM F u
       ·have hst:=HS.out.step hL (t:=er 17 u) (b':=false) (by unfold fR;simp only[hc,hp,hlt,Bool.and_false,bN,bu,aK]);have HG:=aa hst;clear hst;have NC1:=aa (fun W1 (h1:Mk g fv F (u) W1)=>fz hF h1 hBu.p [110] (by decide) hc);have NC2:=aa (fun W1 (h1:Mk g fv F (u) W1)=>mI hF h1 hBu.p hp);have NC3:=aa (fun W1 (h1:Mk g fv F (u) W1)=>yJ hF h1 (hBu.mono (by omega)) hlt);go_wp2_with fail;go_quiet (fail);have D0:=aa (QD.out nq)
        go_wp2_with (first
          | (go_at_call 100;with_reducible refine(NC1.out _ D0.out.m).mono (Mz.k D0 fun nw1 N1=>?_))
          | (go_at_call 101;with_reducible refine(NC2.out _ N1.out.m).mono (Mz.k N1 fun nw2 N2=>?_))
          | (go_at_call 103;with_reducible refine(NC3.out _ N2.out.m).mono (Mz.k N2 fun nw3 N3=>?_))
          | fail)
        refine⟨⟨_,_,rfl,HG.out.1,N3.out⟩,?_⟩;rw[N3.out.m.pOf,HP.out];have h1:=HG.out.2;have h2:=HG.out.1.p;unfold iY at h1;simp only[aK,bN,bu] at h1;simp only[MR];omega
       ·have hst:=HS.out.step hL (t:=dN 2 L u) (b':=true) (by unfold fR;simp only[hc,hp,Bool.not_false,cS,Bool.and_self,bN,bu,aK]);have HG:=aa hst;clear hst;have NC1:=aa (fun W1 (h1:Mk g fv F (u) W1)=>fz hF h1 hBu.p [110] (by decide) hc);have NC2:=aa (fun W1 (h1:Mk g fv F (u) W1)=>mH hF h1 hBu.p hp);have NC3:=aa (fun W1 (h1:Mk g fv F (u) W1)=>wI hF hL HL h1 (by omega) (hBu.mono (by omega)));go_wp2_with fail;go_quiet (fail);have D0:=aa (QD.out nq)
        go_wp2_with (first
          | (go_at_call 100;with_reducible refine(NC1.out _ D0.out.m).mono (Mz.k D0 fun nw1 N1=>?_))
          | (go_at_call 101;with_reducible refine(NC2.out _ N1.out.m).mono (Mz.k N1 fun nw2 N2=>?_))
          | (go_at_call 58;with_reducible refine(NC3.out _ N2.out.m).mono (Mz.k N2 fun nw3 N3=>?_))
          | fail)
        refine⟨⟨_,_,rfl,HG.out.1,N3.out⟩,?_⟩;rw[N3.out.m.pOf,HP.out];have h1:=HG.out.2;have h2:=HG.out.1.p;unfold iY at h1;simp only[aK,bN,bu] at h1;simp only[MR];omega
      ·have hst:=HS.out.step hL (t:=er 17 u) (b':=false) (by unfold fR;simp only[hc,hlt,Bool.not_true,cV,bN,bu,aK]);have HG:=aa hst;clear hst;have NC1:=aa (fun W1 (h1:Mk g fv F (u) W1)=>fz hF h1 hBu.p [110] (by decide) hc);have NC2:=aa (fun W1 (h1:Mk g fv F (u) W1)=>yJ hF h1 (hBu.mono (by omega)) hlt);go_wp2_with fail;go_quiet (fail);have D0:=aa (QD.out nq)
       go_wp2_with (first
         | (go_at_call 100;with_reducible refine(NC1.out _ D0.out.m).mono (Mz.k D0 fun nw1 N1=>?_))
         | (go_at_call 103;with_reducible refine(NC2.out _ N1.out.m).mono (Mz.k N1 fun nw2 N2=>?_))
         | fail)
       refine⟨⟨_,_,rfl,HG.out.1,N2.out⟩,?_⟩;rw[N2.out.m.pOf,HP.out];have h1:=HG.out.2;have h2:=HG.out.1.p;unfold iY at h1;simp only[aK,bN,bu] at h1;simp only[MR];omega
     ·cases b;have hst:=HS.out.step hL (t:=dL u) (b':=false) (by unfold fR;simp only[hc,bN])
      rotate_left
      have hst:=HS.out.step hL (t:=dL u) (b':=true) (by unfold fR;simp only[hc,bN])
      rotate_left
      all_goals (
        have HG:=aa hst;clear hst;have NC1:=aa (fun W1 (h1:Mk g fv F (u) W1)=>fV hF h1 hBu.p [110] (by decide) hc);go_wp2_with fail;go_quiet (fail);have D0:=aa (QD.out nq);go_wp2_with (
          (go_at_call 100;with_reducible refine(NC1.out _ D0.out.m).mono (Mz.k D0 fun nw1 N1=>?_)))
        refine⟨⟨_,_,rfl,HG.out.1,N1.out⟩,?_⟩;rw[N1.out.m.pOf,HP.out];have h1:=HG.out.2;have h2:=HG.out.1.p;unfold iY at h1;simp only[aK,bN,bu] at h1;simp only[MR];omega)
    ·have u1:¬(u.p:Int)<(F.length:Int):=by omega
     have d1:decide ((u.p:Int)<(F.length:Int))=false:=aP u1;go_wp2_with fail;go_quiet (fail);go_wp2_with fail;first|go_end0|refine bn ?_
     exact⟨rfl,by rw[←HS.out.t,x8 hL hup hlt];exact QD.out _⟩
theorem BZ:w.ownsRow B e sz (.slice none 0 0) 0 []:=⟨by simp,.inl ⟨rfl,rfl⟩⟩
theorem Di (F:List Lf):(eF F).l.length≤16*F.length+5:=by
  obtain⟨h1,h2⟩:=Gx F;have h3:=h1.b;rw[h2] at h3;have e1:(jO 0).l.length=0:=rfl;have e2:(jO 0).p=0:=rfl;omega
theorem Jh (F:List Lf) (fv:Value) (w:World) (hF:FB F) (hR:Rd w w.heap.size 4 fv F.length (i9 F)) :
    Calls Tryz.prog 33 #[fv] w fun e w'=>∃v,e=.returned v∧w'.ownsRow w.heap.size 56 4 v (eF F).l.length (gE (eF F).l)∧Below w.heap.size w w':=by
  have hL:=jQ F (F.length+1);have hi:Bd F 1 (fC 1 (jO 0)):=⟨br _,by show (([]:List Nd)++[_]).length≤46*0+1;simp,by show 0≤200;omega⟩;have hg:=qU hL _ (fC 1 (jO 0),false) rfl hi.p;have hn:=hF.n;have hx:∀W0,Mk w.heap.size fv F (jO 0) W0→Calls Tryz.prog 58 #[.pointer (some ⟨w.heap.size,0,none⟩),.int .i64 1,.func (.func 59) #[.pointer (some ⟨w.heap.size,0,none⟩)] #[]] W0 fun e w'=>e=.returned (.tuple #[])∧Mz w.heap.size fv F W0 (eF F) w':=fun W0 h0=>by
    have h1:=hg.1.l;have h2:=hg.2;have h3:(fC 1 (jO 0)).l.length=1:=rfl;rw[h3] at h1
    exact tT (t:=(l8 F (MW F) (fC 1 (jO 0),false)).1) 1 _ h0 (by show 0≤50000;omega) (by omega) (enters_of Tryz.func59 (by kernel_rfl) rfl)
      (fun W1 z1=>Da (q:=0) hF hL (F8 hF (F.length+1) 0 (by omega)) z1.m rfl (hi.mono (by omega)) ⟨hi.p,hi.d,by show 1+4≤16*0+5;omega,rfl⟩) (bq Nat.zero_lt_one h1) (by show (l8 F (uT F (F.length+1)) (fC 1 (jO 0),false)).1.p≤100000;rw[h2];omega)
  obtain⟨A,c,rfl⟩:=hR.formm;have HX:=aa hx;have HR:=aa hR;clear hx hR hg hi hL;go_enter Tryz.func33,Tryz.ntmps33;go_upto_region 2 with fail
  refine kq fun W0 hb0 k0 hs0=>?_
  have M0:Mk w.heap.size _ F (jO 0) W0:=⟨⟨.slice none 0 0,k0,BZ _ _ _ _⟩,HR.out.keep hb0 (au _)⟩;have HM:=aa M0;have HB:=aa hb0;clear hb0 k0 hs0 M0;go_wp2_with (
    (go_at_call 58;refine(HX.out _ HM.out).mono ?_;rintro e w1 ⟨rfl,hz⟩;obtain⟨lv,hb1,ho1⟩:=hz.m.w;obtain⟨c0,c1,c2,c3,c4⟩:=hb1.fivem;have H1:=aa (ac hz.f.hb ho1);clear hz hb1 ho1))
  go_ret;exact⟨_,rfl,H1.out.2,HB.out.trans H1.out.1⟩
def zP (t:Tk):Tz:=⟨t.kd,t.fr,t.to,t.op⟩
theorem Ea:jE ts=(ts.map zP).flatMap Nq:=by
  unfold jE;rw[List.flatMap_map];rfl
def sJ (l:List UInt8):List Lf:=fF l ((ki l).1.map zP)
theorem AV (ts:List Tz):∀x∈fF l ts,x.tx.length≤l.length:=by
  intro x hx;obtain⟨t,_,ht⟩:=List.mem_flatMap.1 hx;unfold lE at ht;split at ht
  ·simp only[List.mem_singleton] at ht;subst ht;show (Iz l t).length≤_;unfold Iz;split
   ·unfold sub;rw[dF,bE];omega
   ·exact br _
  ·simp at ht
theorem Cf (hl:l.length≤900):FB (sJ l):=by
  refine⟨?_,fun x hx=>aA (AV l _ x hx) (by omega)⟩;have h1:=mc l ((ki l).1.map zP);have h2:=nW l;rw[cD] at h1;exact aA h1 (by omega)
def jz (L:List Nd) (u:Int) (i:Nat):Nat:=(L.take i).countP fun x=>x.kd==7&&x.up==u
def iW (L:List Nd) (i:Nat):Bool:=match L[i]? with
  | some x=>x.kd==7&&decide (0≤x.up)&&(match L[x.up.toNat]? with|some u=>u.kd==16||u.kd==5&&jz L x.up i==0|none=>false)
  | none=>false
def iy (L:List Nd) (leaf:Nat):Nat→Int
  | 0 => -1
  | k+1=>match L[k]? with
    | some x=>if x.fr≤leaf∧leaf<x.tt then (k:Int) else iy L leaf k
    | none=>iy L leaf k
def ke (q:eV):Nat:=if q.mode=4∨q.mode=5∨q.mode=13 then 9 else if q.mode=12 then (if lW q-q.fr=1 then 0 else 10) else if q.mode=7∨q.mode=8 then 10 else 11
def sD:List UInt8→Nat→Int
  | [],_ => -1
  | c::r,k=>if c==61 then (k:Int) else sD r (k+1)
def gT (w:List UInt8) (x:Nat):Nat:=if 0≤oZ (dQ w) (x:Int) (dQ w).length then ke ((dQ w).getD (oZ (dQ w) (x:Int) (dQ w).length).toNat dP) else 0
def f9 (w:List UInt8) (kd:Nat) (cmd:Bool) (x:Nat):Nat:=if gT w x=0 then (if kd=6∧(x:Int)≤sD w 0 then 8 else if cmd=true then 6 else 7) else gT w x
def fS (tk nk:Nat):Nat:=if tk=1∨tk=2 then 1 else if tk=3 then 2 else if tk=7 then 12 else if nk=17 then 13 else if tk=4 then 3 else if tk=5 then 4 else if nk≠7∧nk≠6 then 5 else 0
def km (tk:Nat):Bool := !(tk==1||tk==3||tk==7)
def gX (L:List Nd) (t:Tk) (k:Nat):Nat:=if km t.kd=true then (iy L k L.length).toNat else 0
def uc (L:List Nd) (n:Nat):Nat:=match L[n]? with|some x=>x.kd|none=>0
def pg (l:List UInt8) (L:List Nd) (t:Tk) (k:Nat):List Nat:=
  if fS t.kd (uc L (gX L t k))=0 then (List.range (t.to-t.fr)).map (f9 (sub l t.fr t.to) (uc L (gX L t k)) (iW L (gX L t k)))
  else List.replicate (t.to-t.fr) (fS t.kd (uc L (gX L t k)))
def pU (l:List UInt8) (L:List Nd):List Tk→Nat→List Nat
  | [],_=>[]
  | t::r,k=>pg l L t k++pU l L r (if km t.kd=true then k+1 else k)
def lU (l:List UInt8):List Nat:=pU l (eF (sJ l)).l (ki l).1 0
theorem qj (L:List Nd) (t:Tk) (k:Nat):(pg l L t k).length=t.to-t.fr:=by
  unfold pg;split<;>simp
theorem zv (l:List UInt8) (L:List Nd):∀(ts:List Tk) (x k:Nat),nH l ts x→(pU l L ts k).length+x=l.length
  | [],x,k,h=>by show 0+x=_;rw[show x=l.length from h,cC]
  | t::r,x,k,⟨h1,h2,h3,_,_,h6⟩=>by
    have ih:=zv l L r t.to (if km t.kd=true then k+1 else k) h6;show (pg l L t k++_).length+x=_;rw[aG,qj];omega
theorem zq:(lU l).length=l.length:=zv l _ _ 0 0 (mF l)
theorem Df (q:eV):ke q≤11:=by
  unfold ke
  repeat' split
  all_goals omega
theorem CK (w:List UInt8) (kd:Nat) (cmd:Bool) (x:Nat):1≤f9 w kd cmd x∧f9 w kd cmd x≤13:=by
  unfold f9;by_cases h:gT w x=0
  ·rw[aC h]
   repeat' split
   all_goals omega
  ·rw[aB h];refine⟨by omega,?_⟩;unfold gT;split
   ·have:=Df ((dQ w).getD (oZ (dQ w) (x:Int) (dQ w).length).toNat dP);omega
   ·omega
theorem zM (b:Nat):fS a b≤13:=by
  unfold fS
  repeat' split
  all_goals omega
theorem D7 (L:List Nd) (t:Tk) (k:Nat):∀c∈pg l L t k,1≤c∧c≤13:=by
  intro c hc;unfold pg at hc;split at hc
  ·obtain⟨x,_,rfl⟩:=cE.1 hc;exact CK _ _ _ _
  ·rename_i h;have h1:=(List.mem_replicate.1 hc).2
   have:=zM t.kd (uc L (gX L t k))
   omega
theorem zu (l:List UInt8) (L:List Nd):∀(ts:List Tk) (k:Nat),∀c∈pU l L ts k,1≤c∧c≤13
  | [],k,c,h=>by cases h
  | t::r,k,c,h=>by
    rcases bC.1 h with h|h
    ·exact D7 l L t k c h
    ·exact zu l L r _ c h
theorem zp:∀c∈lU l,1≤c∧c≤13:=zu l _ _ 0
def mw (c:Nat):UInt8:=([63,95,35,124,48,114,99,97,110,113,112,115,104,101]:List UInt8).getD c 0
end Go.Proofs.YtcagfamdoaoimaaGreatDoor
