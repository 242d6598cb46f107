/- The parser: lists and programs. -/
import Derived.Test.YtcagfamdoaoimaaGreatDoorPz13
import Derived.Test.YtcagfamdoaoimaaGreatDoorEc9
import Derived.Test.YtcagfamdoaoimaaGreatDoorLa9
import Derived.Test.YtcagfamdoaoimaaGreatDoorPl13
set_option linter.unusedVariables false
set_option linter.unusedSimpArgs false
set_option maxRecDepth 100000
set_option maxHeartbeats 8000000
namespace Go.Proofs.YtcagfamdoaoimaaGreatDoor
open Go.RowKit
variable {b:Bool} {F:List Lf} {g q:Nat} {s u T:Ps} {L:Ps→Ps} {fv:Value} {W:World} (w:World) (B e:Nat) (l:List UInt8) (ts:List Tk) (sz:Nat)
theorem qq (hF:FB F) (hL:GL F L) (HL:gH g fv F L q) (h:Mk g fv F s W) (hq:q≤s.p+1) (hB:Bd F 20 s) :
    Calls Tryz.prog 58 #[.pointer (some ⟨g,0,none⟩),.int .i64 3,.func (.func 137) #[.pointer (some ⟨g,0,none⟩)] #[]] W fun e w'=>e=.returned (.tuple #[])∧Mz g fv F W (dO 3 (eR F L) s) w':=by
  have hi:=hB.inn 3;have hg:=mV hL hi.p;have hn:=hF.n;have h1:=hg.l;have h2:=hg.N;rw[oL] at h1;exact tX (t:=eR F L (fC 3 s)) 3 _ h (hB.l5 hF (by omega)) (by omega) (enters_of Tryz.func137 (by kernel_rfl) rfl) (fun W1 z1=>Kj hF hL HL z1.m hq (hi.mono (by omega))) (by omega) (by omega)
theorem Jw (hF:FB F) (hL:GL F L) (HL:gH g fv F L q) (h:Mk g fv F s W) (hq:q≤s.p+1) (hB:Bd F 20 s) :
    lD 102 g fv F W (.tuple #[]) (gP F L s):=by
  obtain⟨T,hT⟩:∃T,T=gP F L s:=⟨_,rfl⟩;rw[←hT];have HT:=aa hT;clear hT;have H0:=aa (Mz.start h);clear h;go_enter Tryz.func102,Tryz.ntmps102;go_wp2_with fail;go_step3;go_wp2_with fail;go_step3;go_wp2_with fail;go_loopw [] (fun wr=>∃u:Ps,q≤u.p+1∧Bd F 20 u∧(eO F.length (fun s=>gZ F (dO 3 (eR F L) s))) u=(eO F.length (fun s=>gZ F (dO 3 (eR F L) s))) s∧Mz g fv F W u wr) (fun wr=>F.length-pOf g wr)
  case atStart=>exact⟨_,hq,hB,rfl,H0.out⟩
  case round=>
    obtain⟨u,hqu,hBu,hlu,hz⟩:=hrel;have U0:=aa hz;have HU:=aa hlu;have hup:=hz.m.pOf;have HP:=aa hup;clear hz hlu hup;have hgv:=Gd.node0 (k:=3) (s:=u) (f:=eR F L) (A:=2) (N:=F.length) fun t ht _=>mV hL (by rw[ht];exact hBu.p)
    have hBv:=hBu.gd hgv
    cases ha:dQ F [59,38] (dO 3 (eR F L) u)
    ·cases hk:dQ F [110] (dO 3 (eR F L) u)
     ·have e9:=aa (qE hBv.p hk);have HE:=aa (HU.out.symm.trans (LC.stepn (jX hL) hBu.p (t:=dO 3 (eR F L) u) (by show gZ F (dO 3 (eR F L) u)=_;unfold gZ;rw[aB (by rw[ha];decide),aB (by rw[hk];decide)])));have NC1:=aa (fun W1 (h1:Mk g fv F (u) W1)=>qq hF hL HL h1 hqu hBu);have NC2:=aa (fun W1 (h1:Mk g fv F (dO 3 (eR F L) u) W1)=>fA hF h1 hBv.p [59,38] (by decide) ha);have NC3:=aa (fun W1 (h1:Mk g fv F (dO 3 (eR F L) u) W1)=>lq hF h1 hBv.p hk)
      go_wp2_with (first
        | (go_at_call 58;with_reducible refine(NC1.out _ U0.out.m).mono (Mz.k U0 fun nw1 N1=>?_))
        | (go_at_call 100;with_reducible refine(NC2.out _ N1.out.m).mono (Mz.k N1 fun nw2 N2=>?_))
        | (go_at_call 138;with_reducible refine(NC3.out _ N2.out.m).mono (Mz.k N2 fun nw3 N3=>?_))
        | fail)
      try rw[bj]
      first|go_end0|refine bn ?_
      refine⟨rfl,?_⟩;rw[HT.out];unfold gP;rw[HE.out];rw[←e9.out];exact N3.out
     ·have hg3:=dY (F:=F) hBv.p;have hB3:=hBv.gd hg3
      cases hp:fq F (dK F (dO 3 (eR F L) u))
      ·have HE:=aa (HU.out.symm.trans (LC.stepn (jX hL) hBu.p (t:=dK F (dO 3 (eR F L) u)) (by show gZ F (dO 3 (eR F L) u)=_;unfold gZ;rw[aB (by rw[ha];decide),aD hk,hp])));have NC1:=aa (fun W1 (h1:Mk g fv F (u) W1)=>qq hF hL HL h1 hqu hBu);have NC2:=aa (fun W1 (h1:Mk g fv F (dO 3 (eR F L) u) W1)=>fA hF h1 hBv.p [59,38] (by decide) ha);have NC3:=aa (fun W1 (h1:Mk g fv F (dO 3 (eR F L) u) W1)=>jZ hF h1 hBv.p hk);have NC4:=aa (fun W1 (h1:Mk g fv F (dK F (dO 3 (eR F L) u)) W1)=>me hF h1 hB3.p hp)
       go_wp2_with (first
         | (go_at_call 58;with_reducible refine(NC1.out _ U0.out.m).mono (Mz.k U0 fun nw1 N1=>?_))
         | (go_at_call 100;with_reducible refine(NC2.out _ N1.out.m).mono (Mz.k N1 fun nw2 N2=>?_))
         | (go_at_call 138;with_reducible refine(NC3.out _ N2.out.m).mono (Mz.k N2 fun nw3 N3=>?_))
         | (go_at_call 101;with_reducible refine(NC4.out _ N3.out.m).mono (Mz.k N3 fun nw4 N4=>?_))
         | fail)
       try rw[bj]
       first|go_end0|refine bn ?_
       refine⟨rfl,?_⟩;rw[HT.out];unfold gP;rw[HE.out];exact N4.out
      ·have hy:=LC.y (jX hL u hBu.p) (t:=dK F (dO 3 (eR F L) u)) (by show gZ F (dO 3 (eR F L) u)=_;unfold gZ;rw[aB (by rw[ha];decide),aD hk,hp]);have HE:=aa ((LC.stepy (jX hL) hBu.p (t:=dK F (dO 3 (eR F L) u)) (by show gZ F (dO 3 (eR F L) u)=_;unfold gZ;rw[aB (by rw[ha];decide),aD hk,hp])).symm.trans HU.out);have YC1:=aa (fun W1 (h1:Mk g fv F (u) W1)=>qq hF hL HL h1 hqu hBu);have YC2:=aa (fun W1 (h1:Mk g fv F (dO 3 (eR F L) u) W1)=>fA hF h1 hBv.p [59,38] (by decide) ha);have YC3:=aa (fun W1 (h1:Mk g fv F (dO 3 (eR F L) u) W1)=>jZ hF h1 hBv.p hk);have YC4:=aa (fun W1 (h1:Mk g fv F (dK F (dO 3 (eR F L) u)) W1)=>mc hF h1 hB3.p hp)
       go_wp2_with (first
         | (go_at_call 58;with_reducible refine(YC1.out _ U0.out.m).mono (Mz.k U0 fun yw1 Y1=>?_))
         | (go_at_call 100;with_reducible refine(YC2.out _ Y1.out.m).mono (Mz.k Y1 fun yw2 Y2=>?_))
         | (go_at_call 138;with_reducible refine(YC3.out _ Y2.out.m).mono (Mz.k Y2 fun yw3 Y3=>?_))
         | (go_at_call 101;with_reducible refine(YC4.out _ Y3.out.m).mono (Mz.k Y3 fun yw4 Y4=>?_))
         | fail)
       refine⟨⟨_,aA hqu (bH (bq hy.2)),hBu.gd hy.1,HE.out,Y4.out⟩,?_⟩;rw[Y4.out.m.pOf,HP.out]
       have:=hy.2
       have:=hy.1.N
       omega
    ·have hlt:=eh ha (by decide);have hn2:=hBv.next hlt (by omega);have hg3:=dY (F:=F) hn2.p;have hB3:=hn2.gd hg3
     cases hp:fq F (dK F (dM (dO 3 (eR F L) u)))
     ·have HE:=aa (HU.out.symm.trans (LC.stepn (jX hL) hBu.p (t:=dK F (dM (dO 3 (eR F L) u))) (by show gZ F (dO 3 (eR F L) u)=_;unfold gZ;rw[aD ha,hp])));have NC1:=aa (fun W1 (h1:Mk g fv F (u) W1)=>qq hF hL HL h1 hqu hBu);have NC2:=aa (fun W1 (h1:Mk g fv F (dO 3 (eR F L) u) W1)=>fV hF h1 hBv.p [59,38] (by decide) ha);have NC3:=aa (fun W1 (h1:Mk g fv F (dM (dO 3 (eR F L) u)) W1)=>fM hF h1 hn2.p);have NC4:=aa (fun W1 (h1:Mk g fv F (dK F (dM (dO 3 (eR F L) u))) W1)=>me hF h1 hB3.p hp)
      go_wp2_with (first
        | (go_at_call 58;with_reducible refine(NC1.out _ U0.out.m).mono (Mz.k U0 fun nw1 N1=>?_))
        | (go_at_call 100;with_reducible refine(NC2.out _ N1.out.m).mono (Mz.k N1 fun nw2 N2=>?_))
        | (go_at_call 138;with_reducible refine(NC3.out _ N2.out.m).mono (Mz.k N2 fun nw3 N3=>?_))
        | (go_at_call 101;with_reducible refine(NC4.out _ N3.out.m).mono (Mz.k N3 fun nw4 N4=>?_))
        | fail)
      try rw[bj]
      first|go_end0|refine bn ?_
      refine⟨rfl,?_⟩;rw[HT.out];unfold gP;rw[HE.out];exact N4.out
     ·have hy:=LC.y (jX hL u hBu.p) (t:=dK F (dM (dO 3 (eR F L) u))) (by show gZ F (dO 3 (eR F L) u)=_;unfold gZ;rw[aD ha,hp]);have HE:=aa ((LC.stepy (jX hL) hBu.p (t:=dK F (dM (dO 3 (eR F L) u))) (by show gZ F (dO 3 (eR F L) u)=_;unfold gZ;rw[aD ha,hp])).symm.trans HU.out);have YC1:=aa (fun W1 (h1:Mk g fv F (u) W1)=>qq hF hL HL h1 hqu hBu);have YC2:=aa (fun W1 (h1:Mk g fv F (dO 3 (eR F L) u) W1)=>fV hF h1 hBv.p [59,38] (by decide) ha);have YC3:=aa (fun W1 (h1:Mk g fv F (dM (dO 3 (eR F L) u)) W1)=>fM hF h1 hn2.p);have YC4:=aa (fun W1 (h1:Mk g fv F (dK F (dM (dO 3 (eR F L) u))) W1)=>mc hF h1 hB3.p hp)
      go_wp2_with (first
        | (go_at_call 58;with_reducible refine(YC1.out _ U0.out.m).mono (Mz.k U0 fun yw1 Y1=>?_))
        | (go_at_call 100;with_reducible refine(YC2.out _ Y1.out.m).mono (Mz.k Y1 fun yw2 Y2=>?_))
        | (go_at_call 138;with_reducible refine(YC3.out _ Y2.out.m).mono (Mz.k Y2 fun yw3 Y3=>?_))
        | (go_at_call 101;with_reducible refine(YC4.out _ Y3.out.m).mono (Mz.k Y3 fun yw4 Y4=>?_))
        | fail)
      refine⟨⟨_,aA hqu (bH (bq hy.2)),hBu.gd hy.1,HE.out,Y4.out⟩,?_⟩;rw[Y4.out.m.pOf,HP.out]
      have:=hy.2
      have:=hy.1.N
      omega
theorem F6 {g:Nat} {fv:Value} {F:List Lf} (hF:FB F):∀n q,F.length+1≤n+q→gH g fv F (wU F n) q
  | 0,q,hn=>fun s W hq hB h=>by have:=hB.p;omega
  | n+1,q,hn=>fun s W hq hB h=>Jw (q:=q+1) hF (jp F n) (F6 hF n (q+1) (by omega)) h (by omega) hB
theorem yp (hL:GL F L) (h:u.p≤F.length) (hp:¬u.p<F.length):g9 F L (u,b)=(u,b):=by
  have h0:sg F u.p=0:=by unfold sg;rw[bY (by omega)]
  have c1:dQ F [110] u=false:=by unfold dQ;rw[h0];rfl
  have c2:fq F u=false:=Bool.eq_false_iff.2 fun h=>hp (mO h)
  have e:fJ F L (u,b)=((u,b),false):=by
    unfold fJ;simp only[c1,c2,Bool.and_false,bp,aI];rw[aB hp]
  rw[nH hL _ h,e];rfl
structure Pg (F:List Lf) (L:Ps→Ps) (T u:Ps) (b:Bool):Prop where
  p:u.p≤F.length
  d:u.deep≤200
  l:u.l.length+(if b=true then 0 else 4)≤16*u.p+5
  t:(g9 F L (u,b)).1=T
theorem Pg.bd (h:Pg F L T u b):Bd F 5 u:=⟨h.p,by have:=h.l;omega,h.d⟩
theorem Pg.step {F:List Lf} {L:Ps→Ps} {T u t:Ps} {b b':Bool} (hL:GL F L) (h:Pg F L T u b) (e:fJ F L (u,b)=((t,b'),true)):Pg F L T t b'∧iL (u,b)<iL (t,b'):=by
  have h1:=nI hL (u,b) h.p (by rw[e]);rw[e] at h1;obtain⟨h2,h3,h4,h5⟩:=h1;replace h3:t.p≤F.length:=h3;replace h5:t.l.length+16*u.p+(if b'=true then 0 else 4)≤u.l.length+16*t.p+(if b=true then 0 else 4):=h5;refine⟨⟨h3,by have:=h4.dp;show t.deep≤200;rw[this];exact h.d,by have:=h.l;omega,?_⟩,h2⟩;rw[←h.t,nH hL (u,b) h.p,e];rfl
def M8 (v:Value):Nat:=match v with | .bool true=>1|_=>0
theorem Dd (hF:FB F) (hL:GL F L) (HL:gH g fv F L q) (h:Mk g fv F s W) (hq:q=0) (hB:Bd F 5 s) (hPg:Pg F L T s false) :
    lD 59 g fv F W (.tuple #[]) (T):=by
  have hn:=hF.n;have H0:=aa (Mz.start h);clear h hB;go_enter Tryz.func59,Tryz.ntmps59;go_wp2_with fail;go_loopw [2] (fun v wr=>∃(u:Ps) (b:Bool),v=.bool b∧Pg F L T u b∧Mz g fv F W u wr) (fun v wr=>2*F.length+2-(2*pOf g wr+M8 v))
  case atStart=>exact⟨s,false,rfl,hPg,H0.out⟩
  case round=>
    obtain⟨u,b,rfl,hPu,hz⟩:=hrel;have U0:=aa hz;have hup:=hz.m.pOf;have HP:=aa hup;have HS:=aa hPu;have hBu:=hPu.bd;obtain⟨y0,y1,_⟩:=hz.m.cells;obtain⟨A,c,hfv⟩:=hz.m.f.formm;rw[hfv] at y0;have hup:=hPu.p;clear hz hPu hfv;have qd:∀n,Mz g fv F W u (wr.drewN n):=fun n=>U0.out.drew n
    have QD:=aa qd;clear qd;by_cases hlt:u.p<F.length
    ·have u1:(u.p:Int)<(F.length:Int):=by omega
     have d1:decide ((u.p:Int)<(F.length:Int))=true:=aG u1
     cases hc:dQ F [110] u
     ·cases b
      ·cases hp:fq F u
       ·have hst:=HS.out.step hL (t:=ez 17 u) (b':=false) (by unfold fJ;simp only[hc,hp,hlt,Bool.and_false,bQ,bp,aI]);have HG:=aa hst;clear hst;have NC1:=aa (fun W1 (h1:Mk g fv F (u) W1)=>fA hF h1 hBu.p [110] (by decide) hc);have NC2:=aa (fun W1 (h1:Mk g fv F (u) W1)=>me hF h1 hBu.p hp);have NC3:=aa (fun W1 (h1:Mk g fv F (u) W1)=>yV hF h1 (hBu.mono (by omega)) hlt);go_wp2_with fail;go_quiet (fail);have D0:=aa (QD.out nq)
        go_wp2_with (first
          | (go_at_call 100;with_reducible refine(NC1.out _ D0.out.m).mono (Mz.k D0 fun nw1 N1=>?_))
          | (go_at_call 101;with_reducible refine(NC2.out _ N1.out.m).mono (Mz.k N1 fun nw2 N2=>?_))
          | (go_at_call 103;with_reducible refine(NC3.out _ N2.out.m).mono (Mz.k N2 fun nw3 N3=>?_))
          | fail)
        refine⟨⟨_,_,rfl,HG.out.1,N3.out⟩,?_⟩;rw[N3.out.m.pOf,HP.out];have h1:=HG.out.2;have h2:=HG.out.1.p;unfold iL at h1;simp only[aI,bQ,bp] at h1;simp only[M8];omega
       ·have hst:=HS.out.step hL (t:=dO 2 L u) (b':=true) (by unfold fJ;simp only[hc,hp,Bool.not_false,cK,Bool.and_self,bQ,bp,aI]);have HG:=aa hst;clear hst;have NC1:=aa (fun W1 (h1:Mk g fv F (u) W1)=>fA hF h1 hBu.p [110] (by decide) hc);have NC2:=aa (fun W1 (h1:Mk g fv F (u) W1)=>mc hF h1 hBu.p hp);have NC3:=aa (fun W1 (h1:Mk g fv F (u) W1)=>wQ hF hL HL h1 (by omega) (hBu.mono (by omega)));go_wp2_with fail;go_quiet (fail);have D0:=aa (QD.out nq)
        go_wp2_with (first
          | (go_at_call 100;with_reducible refine(NC1.out _ D0.out.m).mono (Mz.k D0 fun nw1 N1=>?_))
          | (go_at_call 101;with_reducible refine(NC2.out _ N1.out.m).mono (Mz.k N1 fun nw2 N2=>?_))
          | (go_at_call 58;with_reducible refine(NC3.out _ N2.out.m).mono (Mz.k N2 fun nw3 N3=>?_))
          | fail)
        refine⟨⟨_,_,rfl,HG.out.1,N3.out⟩,?_⟩;rw[N3.out.m.pOf,HP.out];have h1:=HG.out.2;have h2:=HG.out.1.p;unfold iL at h1;simp only[aI,bQ,bp] at h1;simp only[M8];omega
      ·have hst:=HS.out.step hL (t:=ez 17 u) (b':=false) (by unfold fJ;simp only[hc,hlt,Bool.not_true,dF,bQ,bp,aI]);have HG:=aa hst;clear hst;have NC1:=aa (fun W1 (h1:Mk g fv F (u) W1)=>fA hF h1 hBu.p [110] (by decide) hc);have NC2:=aa (fun W1 (h1:Mk g fv F (u) W1)=>yV hF h1 (hBu.mono (by omega)) hlt);go_wp2_with fail;go_quiet (fail);have D0:=aa (QD.out nq)
       go_wp2_with (first
         | (go_at_call 100;with_reducible refine(NC1.out _ D0.out.m).mono (Mz.k D0 fun nw1 N1=>?_))
         | (go_at_call 103;with_reducible refine(NC2.out _ N1.out.m).mono (Mz.k N1 fun nw2 N2=>?_))
         | fail)
       refine⟨⟨_,_,rfl,HG.out.1,N2.out⟩,?_⟩;rw[N2.out.m.pOf,HP.out];have h1:=HG.out.2;have h2:=HG.out.1.p;unfold iL at h1;simp only[aI,bQ,bp] at h1;simp only[M8];omega
     ·cases b;have hst:=HS.out.step hL (t:=dM u) (b':=false) (by unfold fJ;simp only[hc,bQ])
      rotate_left
      have hst:=HS.out.step hL (t:=dM u) (b':=true) (by unfold fJ;simp only[hc,bQ])
      rotate_left
      all_goals (
        have HG:=aa hst;clear hst;have NC1:=aa (fun W1 (h1:Mk g fv F (u) W1)=>fV hF h1 hBu.p [110] (by decide) hc);go_wp2_with fail;go_quiet (fail);have D0:=aa (QD.out nq);go_wp2_with (
          (go_at_call 100;with_reducible refine(NC1.out _ D0.out.m).mono (Mz.k D0 fun nw1 N1=>?_)))
        refine⟨⟨_,_,rfl,HG.out.1,N1.out⟩,?_⟩;rw[N1.out.m.pOf,HP.out];have h1:=HG.out.2;have h2:=HG.out.1.p;unfold iL at h1;simp only[aI,bQ,bp] at h1;simp only[M8];omega)
    ·have u1:¬(u.p:Int)<(F.length:Int):=by omega
     have d1:decide ((u.p:Int)<(F.length:Int))=false:=aL u1;go_wp2_with fail;go_quiet (fail);go_wp2_with fail;first|go_end0|refine bn ?_
     exact⟨rfl,by rw[←HS.out.t,yp hL hup hlt];exact QD.out _⟩
theorem Ca:w.ownsRow B e sz (.slice none 0 0) 0 []:=⟨by simp,.inl ⟨rfl,rfl⟩⟩
theorem Di (F:List Lf):(eP F).l.length≤16*F.length+5:=by
  obtain⟨h1,h2⟩:=Gw F;have h3:=h1.b;rw[h2] at h3;have e1:(iW 0).l.length=0:=rfl;have e2:(iW 0).p=0:=rfl;omega
theorem Jh (F:List Lf) (fv:Value) (w:World) (hF:FB F) (hR:Rd w w.heap.size 4 fv F.length (iF F)) :
    Calls Tryz.prog 33 #[fv] w fun e w'=>∃v,e=.returned v∧w'.ownsRow w.heap.size 56 4 v (eP F).l.length (gQ (eP F).l)∧Below w.heap.size w w':=by
  have hL:=jp F (F.length+1);have hi:Bd F 1 (fC 1 (iW 0)):=⟨bv _,by show (([]:List Nd)++[_]).length≤46*0+1;simp,by show 0≤200;omega⟩;have hg:=mT hL _ (fC 1 (iW 0),false) rfl hi.p;have hn:=hF.n;have hx:∀W0,Mk w.heap.size fv F (iW 0) W0→Calls Tryz.prog 58 #[.pointer (some ⟨w.heap.size,0,none⟩),.int .i64 1,.func (.func 59) #[.pointer (some ⟨w.heap.size,0,none⟩)] #[]] W0 fun e w'=>e=.returned (.tuple #[])∧Mz w.heap.size fv F W0 (eP F) w':=fun W0 h0=>by
    have h1:=hg.1.l;have h2:=hg.2;have h3:(fC 1 (iW 0)).l.length=1:=rfl;rw[h3] at h1
    exact tX (t:=(g9 F (uV F) (fC 1 (iW 0),false)).1) 1 _ h0 (by show 0≤50000;omega) (by omega) (enters_of Tryz.func59 (by kernel_rfl) rfl)
      (fun W1 z1=>Dd (q:=0) hF hL (F6 hF (F.length+1) 0 (by omega)) z1.m rfl (hi.mono (by omega)) ⟨hi.p,hi.d,by show 1+4≤16*0+5;omega,rfl⟩) (bA Nat.zero_lt_one h1) (by show (g9 F (wU F (F.length+1)) (fC 1 (iW 0),false)).1.p≤100000;rw[h2];omega)
  obtain⟨A,c,rfl⟩:=hR.formm;have HX:=aa hx;have HR:=aa hR;clear hx hR hg hi hL;go_enter Tryz.func33,Tryz.ntmps33;go_upto_region 2 with fail
  refine ki fun W0 hb0 k0 hs0=>?_
  have M0:Mk w.heap.size _ F (iW 0) W0:=⟨⟨.slice none 0 0,k0,Ca _ _ _ _⟩,HR.out.keep hb0 (au _)⟩;have HM:=aa M0;have HB:=aa hb0;clear hb0 k0 hs0 M0;go_wp2_with (
    (go_at_call 58;refine(HX.out _ HM.out).mono ?_;rintro e w1 ⟨rfl,hz⟩;obtain⟨lv,hb1,ho1⟩:=hz.m.w;obtain⟨c0,c1,c2,c3,c4⟩:=hb1.fivem;have H1:=aa (ac hz.f.hb ho1);clear hz hb1 ho1))
  go_ret;exact⟨_,rfl,H1.out.2,HB.out.trans H1.out.1⟩
def uP (t:Tk):Tz:=⟨t.kd,t.fr,t.to,t.op⟩
theorem xL:jC ts=(ts.map uP).flatMap Mw:=by
  unfold jC;rw[List.flatMap_map];rfl
def f9 (l:List UInt8):List Lf:=fG l ((iX l).1.map uP)
theorem Bg (ts:List Tz):∀x∈fG l ts,x.tx.length≤l.length:=by
  intro x hx;obtain⟨t,_,ht⟩:=dG.1 hx;unfold kK at ht;split at ht
  ·simp only[cE] at ht;subst ht;show (Is l t).length≤_;unfold Is;split
   ·unfold sub;rw[List.length_drop,cm];omega
   ·exact bv _
  ·simp at ht
theorem qD (hl:l.length≤900):FB (f9 l):=by
  refine⟨?_,fun x hx=>aA (Bg l _ x hx) (by omega)⟩;have h1:=lQ l ((iX l).1.map uP);have h2:=qG l;rw[cH] at h1;exact aA h1 (by omega)
theorem Kw (w:World) (hl:l.length≤900) :
    Calls Tryz.prog 11 #[.string ⟨l.toArray⟩] w fun e w'=>∃v1 v2,e=.returned (.tuple #[v1,v2])∧w'.ownsRow w.heap.size 29 4 v1 (f9 l).length (iF (f9 l))∧w'.ownsRow w.heap.size 56 4 v2 (eP (f9 l)).l.length (gQ (eP (f9 l)).l)∧Below w.heap.size w w':=by
  have c1:=fun W=>KG l W hl
  have c2:=fun (A:Option Addr) (c:Nat) W (hR:Rd W W.heap.size 4 (.slice A ((iX l).1.map uP).length c) ((iX l).1.map uP).length (((iX l).1.map uP).flatMap Mw))=>yS l ((iX l).1.map uP) A c W (by omega) (by rw[cH];have:=qG l;omega) hR
  have c3:=fun fv W (hR:Rd W W.heap.size 4 fv (f9 l).length (iF (f9 l)))=>Jh (f9 l) fv W (qD l hl) hR
  have e1:jC (iX l).1=((iX l).1.map uP).flatMap Mw:=xL _;have e2:(iX l).1.length=((iX l).1.map uP).length:=by rw[cH]
  rw[e1,e2] at c1;rw[show fG l ((iX l).1.map uP)=f9 l from rfl] at c2;obtain⟨Z,hZ⟩:∃Z,Z=(iX l).1.map uP:=⟨_,rfl⟩;obtain⟨Y,hY⟩:∃Y,Y=(iX l).2:=⟨_,rfl⟩;rw[←hZ] at c1 c2;rw[←hY] at c1;have HC:=aa (ac c1 (ac c2 c3));clear c1 c2 c3 e1 e2 hZ hY;go_enter Tryz.func11,Tryz.ntmps11
  go_wp2_with (first
    | (go_at_call 31;refine(HC.out.1 _).mono ?_;rintro e w1 ⟨v1,v2,rfl,ho,⟨v3,rfl,hr⟩,hb⟩;obtain⟨A1,n1,c1,rfl⟩:=dR ho;obtain rfl:=ei ho;obtain⟨A3,c3,rfl⟩:=hr.form;unfold ik;have H1:=aa (ac ho hb);clear ho hb hr)
    | (go_at_call 32;have hba:Below w1.heap.size w1 (w1.alloc (.cells #[.int .i64 Y.aw,.slice A3 Y.pd.length c3,.bool Y.bd] 49)):=(aC _ w1).alloc (au _) _;refine(HC.out.2.1 _ _ _ (Rd.of_own (dS H1.out.1 hba))).mono ?_;rintro e w2 ⟨v,rfl,ho,hb⟩;have H2:=aa (ac (fK ho (show w.heap.size≤_ from aA H1.out.2.size hba.size)) (H1.out.2.trans ((hba.trans (hb.mono hba.size)).mono H1.out.2.size)));clear ho hb hba)
    | (go_at_call 33;refine(HC.out.2.2 _ _ (Rd.of_own H2.out.1)).mono ?_;rintro e w3 ⟨v3,rfl,ho,hb⟩;have H3:=aa (ac (dS H2.out.1 hb) (ac (fK ho H2.out.2.size) (H2.out.2.trans (hb.mono H2.out.2.size))));clear ho hb)
    | fail)
  go_ret2;exact⟨_,_,rfl,H3.out⟩
end Go.Proofs.YtcagfamdoaoimaaGreatDoor
