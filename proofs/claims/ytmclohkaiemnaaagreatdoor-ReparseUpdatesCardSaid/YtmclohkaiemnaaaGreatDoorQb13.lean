/- The parser: lists and programs. -/
import Derived.Test.YtmclohkaiemnaaaGreatDoorPz13
set_option linter.unusedVariables false
set_option linter.unusedSimpArgs false
set_option maxRecDepth 100000
set_option maxHeartbeats 8000000
namespace Go.Proofs.YtmclohkaiemnaaaGreatDoor
open Go.RowKit
variable {b:Bool} {F:List Lf} {g q:Nat} {s u T:Ps} {L:Ps→Ps} {fv:Value} {W:World} (w:World) (B e sz:Nat)
theorem oz (hF:FB F) (hL:GL F L) (HL:ia g fv F L q) (h:Mk g fv F s W) (hq:q≤s.p+1) (hB:Bd F 20 s) :
    Calls Tryz.prog 51 #[.pointer (some ⟨g,0,none⟩),.int .i64 3,.func (.func 86) #[.pointer (some ⟨g,0,none⟩)] #[]] W fun e w'=>e=.returned (.tuple #[])∧Mz g fv F W (eh 3 (eW F L) s) w':=by
  have hi:=hB.inn 3;have hg:=lj hL hi.p;have hn:=hF.n;have h1:=hg.l;have h2:=hg.N;rw[oH] at h1;exact tD (t:=eW F L (fG 3 s)) 3 _ h (hB.l5 hF (by omega)) (by omega) (enters_of Tryz.func86 (by kernel_rfl) rfl) (fun W1 z1=>Kt hF hL HL z1.m hq (hi.mono (by omega))) (by omega) (by omega)
theorem JF (hF:FB F) (hL:GL F L) (HL:ia g fv F L q) (h:Mk g fv F s W) (hq:q≤s.p+1) (hB:Bd F 20 s) :
    lw 74 g fv F W (.tuple #[]) (kw F L s):=by
  obtain⟨T,hT⟩:∃T,T=kw F L s:=⟨_,rfl⟩;rw[←hT];have HT:=ac hT;clear hT;have H0:=ac (Mz.start h);clear h;go_enter Tryz.func74,Tryz.ntmps74;go_wp2_with fail;go_step3;go_wp2_with fail;go_step3;go_wp2_with fail;go_loopw [] (fun wr=>∃u:Ps,q≤u.p+1∧Bd F 20 u∧(eV F.length (fun s=>gj F (eh 3 (eW F L) s))) u=(eV F.length (fun s=>gj F (eh 3 (eW F L) s))) s∧Mz g fv F W u wr) (fun wr=>F.length-pOf g wr)
  case atStart=>exact⟨_,hq,hB,rfl,H0.out⟩
  case round=>
    obtain⟨u,hqu,hBu,hlu,hz⟩:=hrel;have U0:=ac hz;have HU:=ac hlu;have hup:=hz.m.pOf;have HP:=ac hup;clear hz hlu hup;have hgv:=Gd.node0 (k:=3) (s:=u) (f:=eW F L) (A:=2) (N:=F.length) fun t ht _=>lj hL (by rw[ht];exact hBu.p)
    have hBv:=hBu.gd hgv
    cases ha:ef F [59,38] (eh 3 (eW F L) u)
    ·cases hk:ef F [110] (eh 3 (eW F L) u)
     ·have e9:=ac (ql hBv.p hk);have HE:=ac (HU.out.symm.trans (LC.stepn (jk hL) hBu.p (t:=eh 3 (eW F L) u) (by show gj F (eh 3 (eW F L) u)=_;unfold gj;rw[aC (by rw[ha];decide),aC (by rw[hk];decide)])));have NC1:=ac (fun W1 (h1:Mk g fv F (u) W1)=>oz hF hL HL h1 hqu hBu);have NC2:=ac (fun W1 (h1:Mk g fv F (eh 3 (eW F L) u) W1)=>fE hF h1 hBv.p [59,38] (by decide) ha);have NC3:=ac (fun W1 (h1:Mk g fv F (eh 3 (eW F L) u) W1)=>lh hF h1 hBv.p hk)
      go_wp2_with (first
        | (go_at_call 51;with_reducible refine(NC1.out _ U0.out.m).mono (Mz.k U0 fun nw1 N1=>?_))
        | (go_at_call 73;with_reducible refine(NC2.out _ N1.out.m).mono (Mz.k N1 fun nw2 N2=>?_))
        | (go_at_call 92;with_reducible refine(NC3.out _ N2.out.m).mono (Mz.k N2 fun nw3 N3=>?_))
        | fail)
      try rw[aY]
      first|go_end0|refine bn ?_
      refine⟨rfl,?_⟩;rw[HT.out];unfold kw;rw[HE.out];rw[←e9.out];exact N3.out
     ·have hg3:=ej (F:=F) hBv.p;have hB3:=hBv.gd hg3
      cases hp:eN F (dW F (eh 3 (eW F L) u))
      ·have HE:=ac (HU.out.symm.trans (LC.stepn (jk hL) hBu.p (t:=dW F (eh 3 (eW F L) u)) (by show gj F (eh 3 (eW F L) u)=_;unfold gj;rw[aC (by rw[ha];decide),aB hk,hp])));have NC1:=ac (fun W1 (h1:Mk g fv F (u) W1)=>oz hF hL HL h1 hqu hBu);have NC2:=ac (fun W1 (h1:Mk g fv F (eh 3 (eW F L) u) W1)=>fE hF h1 hBv.p [59,38] (by decide) ha);have NC3:=ac (fun W1 (h1:Mk g fv F (eh 3 (eW F L) u) W1)=>jW hF h1 hBv.p hk);have NC4:=ac (fun W1 (h1:Mk g fv F (dW F (eh 3 (eW F L) u)) W1)=>mh hF h1 hB3.p hp)
       go_wp2_with (first
         | (go_at_call 51;with_reducible refine(NC1.out _ U0.out.m).mono (Mz.k U0 fun nw1 N1=>?_))
         | (go_at_call 73;with_reducible refine(NC2.out _ N1.out.m).mono (Mz.k N1 fun nw2 N2=>?_))
         | (go_at_call 92;with_reducible refine(NC3.out _ N2.out.m).mono (Mz.k N2 fun nw3 N3=>?_))
         | (go_at_call 39;with_reducible refine(NC4.out _ N3.out.m).mono (Mz.k N3 fun nw4 N4=>?_))
         | fail)
       try rw[aY]
       first|go_end0|refine bn ?_
       refine⟨rfl,?_⟩;rw[HT.out];unfold kw;rw[HE.out];exact N4.out
      ·have hy:=LC.y (jk hL u hBu.p) (t:=dW F (eh 3 (eW F L) u)) (by show gj F (eh 3 (eW F L) u)=_;unfold gj;rw[aC (by rw[ha];decide),aB hk,hp]);have HE:=ac ((LC.stepy (jk hL) hBu.p (t:=dW F (eh 3 (eW F L) u)) (by show gj F (eh 3 (eW F L) u)=_;unfold gj;rw[aC (by rw[ha];decide),aB hk,hp])).symm.trans HU.out);have YC1:=ac (fun W1 (h1:Mk g fv F (u) W1)=>oz hF hL HL h1 hqu hBu);have YC2:=ac (fun W1 (h1:Mk g fv F (eh 3 (eW F L) u) W1)=>fE hF h1 hBv.p [59,38] (by decide) ha);have YC3:=ac (fun W1 (h1:Mk g fv F (eh 3 (eW F L) u) W1)=>jW hF h1 hBv.p hk);have YC4:=ac (fun W1 (h1:Mk g fv F (dW F (eh 3 (eW F L) u)) W1)=>mg hF h1 hB3.p hp)
       go_wp2_with (first
         | (go_at_call 51;with_reducible refine(YC1.out _ U0.out.m).mono (Mz.k U0 fun yw1 Y1=>?_))
         | (go_at_call 73;with_reducible refine(YC2.out _ Y1.out.m).mono (Mz.k Y1 fun yw2 Y2=>?_))
         | (go_at_call 92;with_reducible refine(YC3.out _ Y2.out.m).mono (Mz.k Y2 fun yw3 Y3=>?_))
         | (go_at_call 39;with_reducible refine(YC4.out _ Y3.out.m).mono (Mz.k Y3 fun yw4 Y4=>?_))
         | fail)
       refine⟨⟨_,aA hqu (bF (aM hy.2)),hBu.gd hy.1,HE.out,Y4.out⟩,?_⟩;rw[Y4.out.m.pOf,HP.out]
       have:=hy.2
       have:=hy.1.N
       omega
    ·have hlt:=er ha (by decide);have hn2:=hBv.next hlt (by omega);have hg3:=ej (F:=F) hn2.p;have hB3:=hn2.gd hg3
     cases hp:eN F (dW F (dY (eh 3 (eW F L) u)))
     ·have HE:=ac (HU.out.symm.trans (LC.stepn (jk hL) hBu.p (t:=dW F (dY (eh 3 (eW F L) u))) (by show gj F (eh 3 (eW F L) u)=_;unfold gj;rw[aB ha,hp])));have NC1:=ac (fun W1 (h1:Mk g fv F (u) W1)=>oz hF hL HL h1 hqu hBu);have NC2:=ac (fun W1 (h1:Mk g fv F (eh 3 (eW F L) u) W1)=>gD hF h1 hBv.p [59,38] (by decide) ha);have NC3:=ac (fun W1 (h1:Mk g fv F (dY (eh 3 (eW F L) u)) W1)=>fT hF h1 hn2.p);have NC4:=ac (fun W1 (h1:Mk g fv F (dW F (dY (eh 3 (eW F L) u))) W1)=>mh hF h1 hB3.p hp)
      go_wp2_with (first
        | (go_at_call 51;with_reducible refine(NC1.out _ U0.out.m).mono (Mz.k U0 fun nw1 N1=>?_))
        | (go_at_call 73;with_reducible refine(NC2.out _ N1.out.m).mono (Mz.k N1 fun nw2 N2=>?_))
        | (go_at_call 92;with_reducible refine(NC3.out _ N2.out.m).mono (Mz.k N2 fun nw3 N3=>?_))
        | (go_at_call 39;with_reducible refine(NC4.out _ N3.out.m).mono (Mz.k N3 fun nw4 N4=>?_))
        | fail)
      try rw[aY]
      first|go_end0|refine bn ?_
      refine⟨rfl,?_⟩;rw[HT.out];unfold kw;rw[HE.out];exact N4.out
     ·have hy:=LC.y (jk hL u hBu.p) (t:=dW F (dY (eh 3 (eW F L) u))) (by show gj F (eh 3 (eW F L) u)=_;unfold gj;rw[aB ha,hp]);have HE:=ac ((LC.stepy (jk hL) hBu.p (t:=dW F (dY (eh 3 (eW F L) u))) (by show gj F (eh 3 (eW F L) u)=_;unfold gj;rw[aB ha,hp])).symm.trans HU.out);have YC1:=ac (fun W1 (h1:Mk g fv F (u) W1)=>oz hF hL HL h1 hqu hBu);have YC2:=ac (fun W1 (h1:Mk g fv F (eh 3 (eW F L) u) W1)=>gD hF h1 hBv.p [59,38] (by decide) ha);have YC3:=ac (fun W1 (h1:Mk g fv F (dY (eh 3 (eW F L) u)) W1)=>fT hF h1 hn2.p);have YC4:=ac (fun W1 (h1:Mk g fv F (dW F (dY (eh 3 (eW F L) u))) W1)=>mg hF h1 hB3.p hp)
      go_wp2_with (first
        | (go_at_call 51;with_reducible refine(YC1.out _ U0.out.m).mono (Mz.k U0 fun yw1 Y1=>?_))
        | (go_at_call 73;with_reducible refine(YC2.out _ Y1.out.m).mono (Mz.k Y1 fun yw2 Y2=>?_))
        | (go_at_call 92;with_reducible refine(YC3.out _ Y2.out.m).mono (Mz.k Y2 fun yw3 Y3=>?_))
        | (go_at_call 39;with_reducible refine(YC4.out _ Y3.out.m).mono (Mz.k Y3 fun yw4 Y4=>?_))
        | fail)
      refine⟨⟨_,aA hqu (bF (aM hy.2)),hBu.gd hy.1,HE.out,Y4.out⟩,?_⟩;rw[Y4.out.m.pOf,HP.out]
      have:=hy.2
      have:=hy.1.N
      omega
theorem As {g:Nat} {fv:Value} {F:List Lf} (hF:FB F):∀n q,F.length+1≤n+q→ia g fv F (je F n) q
  | 0,q,hn=>fun s W hq hB h=>by have:=hB.p;omega
  | n+1,q,hn=>fun s W hq hB h=>JF (q:=q+1) hF (fU F n) (As hF n (q+1) (by omega)) h (by omega) hB
theorem xT (hL:GL F L) (h:u.p≤F.length) (hp:¬u.p<F.length):jj F L (u,b)=(u,b):=by
  have h0:sg F u.p=0:=by unfold sg;rw[bI (by omega)]
  have c1:ef F [110] u=false:=by unfold ef;rw[h0];rfl
  have c2:eN F u=false:=Bool.eq_false_iff.2 fun h=>hp (lK h)
  have e:fM F L (u,b)=((u,b),false):=by
    unfold fM;simp only[c1,c2,Bool.and_false,bp,aH];rw[aC hp]
  rw[jV hL _ h,e];rfl
structure Pg (F:List Lf) (L:Ps→Ps) (T u:Ps) (b:Bool):Prop where
  p:u.p≤F.length
  d:u.deep≤200
  l:u.l.length+(if b=true then 0 else 4)≤16*u.p+5
  t:(jj F L (u,b)).1=T
theorem Pg.bd (h:Pg F L T u b):Bd F 5 u:=⟨h.p,by have:=h.l;omega,h.d⟩
theorem Pg.step {F:List Lf} {L:Ps→Ps} {T u t:Ps} {b b':Bool} (hL:GL F L) (h:Pg F L T u b) (e:fM F L (u,b)=((t,b'),true)):Pg F L T t b'∧jb (u,b)<jb (t,b'):=by
  have h1:=nD hL (u,b) h.p (by rw[e]);rw[e] at h1;obtain⟨h2,h3,h4,h5⟩:=h1;replace h3:t.p≤F.length:=h3;replace h5:t.l.length+16*u.p+(if b'=true then 0 else 4)≤u.l.length+16*t.p+(if b=true then 0 else 4):=h5;refine⟨⟨h3,by have:=h4.dp;show t.deep≤200;rw[this];exact h.d,by have:=h.l;omega,?_⟩,h2⟩;rw[←h.t,jV hL (u,b) h.p,e];rfl
def Nx (v:Value):Nat:=match v with | .bool true=>1|_=>0
theorem CS (hF:FB F) (hL:GL F L) (HL:ia g fv F L q) (h:Mk g fv F s W) (hq:q=0) (hB:Bd F 5 s) (hPg:Pg F L T s false) :
    lw 52 g fv F W (.tuple #[]) (T):=by
  have hn:=hF.n;have H0:=ac (Mz.start h);clear h hB;go_enter Tryz.func52,Tryz.ntmps52;go_wp2_with fail;go_loopw [2] (fun v wr=>∃(u:Ps) (b:Bool),v=.bool b∧Pg F L T u b∧Mz g fv F W u wr) (fun v wr=>2*F.length+2-(2*pOf g wr+Nx v))
  case atStart=>exact⟨s,false,rfl,hPg,H0.out⟩
  case round=>
    obtain⟨u,b,rfl,hPu,hz⟩:=hrel;have U0:=ac hz;have hup:=hz.m.pOf;have HP:=ac hup;have HS:=ac hPu;have hBu:=hPu.bd;obtain⟨y0,y1,_⟩:=hz.m.cells;obtain⟨A,c,hfv⟩:=hz.m.f.formm;rw[hfv] at y0;have hup:=hPu.p;clear hz hPu hfv;have qd:∀n,Mz g fv F W u (wr.drewN n):=fun n=>U0.out.drew n
    have QD:=ac qd;clear qd;by_cases hlt:u.p<F.length
    ·have u1:(u.p:Int)<(F.length:Int):=by omega
     have d1:decide ((u.p:Int)<(F.length:Int))=true:=aG u1
     cases hc:ef F [110] u
     ·cases b
      ·cases hp:eN F u
       ·have hst:=HS.out.step hL (t:=eD 17 u) (b':=false) (by unfold fM;simp only[hc,hp,hlt,Bool.and_false,bP,bp,aH]);have HG:=ac hst;clear hst;have NC1:=ac (fun W1 (h1:Mk g fv F (u) W1)=>fE hF h1 hBu.p [110] (by decide) hc);have NC2:=ac (fun W1 (h1:Mk g fv F (u) W1)=>mh hF h1 hBu.p hp);have NC3:=ac (fun W1 (h1:Mk g fv F (u) W1)=>yx hF h1 (hBu.mono (by omega)) hlt);go_wp2_with fail;go_quiet (fail);have D0:=ac (QD.out nq)
        go_wp2_with (first
          | (go_at_call 73;with_reducible refine(NC1.out _ D0.out.m).mono (Mz.k D0 fun nw1 N1=>?_))
          | (go_at_call 39;with_reducible refine(NC2.out _ N1.out.m).mono (Mz.k N1 fun nw2 N2=>?_))
          | (go_at_call 75;with_reducible refine(NC3.out _ N2.out.m).mono (Mz.k N2 fun nw3 N3=>?_))
          | fail)
        refine⟨⟨_,_,rfl,HG.out.1,N3.out⟩,?_⟩;rw[N3.out.m.pOf,HP.out];have h1:=HG.out.2;have h2:=HG.out.1.p;unfold jb at h1;simp only[aH,bP,bp] at h1;simp only[Nx];omega
       ·have hst:=HS.out.step hL (t:=eh 2 L u) (b':=true) (by unfold fM;simp only[hc,hp,Bool.not_false,cN,Bool.and_self,bP,bp,aH]);have HG:=ac hst;clear hst;have NC1:=ac (fun W1 (h1:Mk g fv F (u) W1)=>fE hF h1 hBu.p [110] (by decide) hc);have NC2:=ac (fun W1 (h1:Mk g fv F (u) W1)=>mg hF h1 hBu.p hp);have NC3:=ac (fun W1 (h1:Mk g fv F (u) W1)=>ww hF hL HL h1 (by omega) (hBu.mono (by omega)));go_wp2_with fail;go_quiet (fail);have D0:=ac (QD.out nq)
        go_wp2_with (first
          | (go_at_call 73;with_reducible refine(NC1.out _ D0.out.m).mono (Mz.k D0 fun nw1 N1=>?_))
          | (go_at_call 39;with_reducible refine(NC2.out _ N1.out.m).mono (Mz.k N1 fun nw2 N2=>?_))
          | (go_at_call 51;with_reducible refine(NC3.out _ N2.out.m).mono (Mz.k N2 fun nw3 N3=>?_))
          | fail)
        refine⟨⟨_,_,rfl,HG.out.1,N3.out⟩,?_⟩;rw[N3.out.m.pOf,HP.out];have h1:=HG.out.2;have h2:=HG.out.1.p;unfold jb at h1;simp only[aH,bP,bp] at h1;simp only[Nx];omega
      ·have hst:=HS.out.step hL (t:=eD 17 u) (b':=false) (by unfold fM;simp only[hc,hlt,Bool.not_true,dC,bP,bp,aH]);have HG:=ac hst;clear hst;have NC1:=ac (fun W1 (h1:Mk g fv F (u) W1)=>fE hF h1 hBu.p [110] (by decide) hc);have NC2:=ac (fun W1 (h1:Mk g fv F (u) W1)=>yx hF h1 (hBu.mono (by omega)) hlt);go_wp2_with fail;go_quiet (fail);have D0:=ac (QD.out nq)
       go_wp2_with (first
         | (go_at_call 73;with_reducible refine(NC1.out _ D0.out.m).mono (Mz.k D0 fun nw1 N1=>?_))
         | (go_at_call 75;with_reducible refine(NC2.out _ N1.out.m).mono (Mz.k N1 fun nw2 N2=>?_))
         | fail)
       refine⟨⟨_,_,rfl,HG.out.1,N2.out⟩,?_⟩;rw[N2.out.m.pOf,HP.out];have h1:=HG.out.2;have h2:=HG.out.1.p;unfold jb at h1;simp only[aH,bP,bp] at h1;simp only[Nx];omega
     ·cases b;have hst:=HS.out.step hL (t:=dY u) (b':=false) (by unfold fM;simp only[hc,bP])
      rotate_left
      have hst:=HS.out.step hL (t:=dY u) (b':=true) (by unfold fM;simp only[hc,bP])
      rotate_left
      all_goals (
        have HG:=ac hst;clear hst;have NC1:=ac (fun W1 (h1:Mk g fv F (u) W1)=>gD hF h1 hBu.p [110] (by decide) hc);go_wp2_with fail;go_quiet (fail);have D0:=ac (QD.out nq);go_wp2_with (
          (go_at_call 73;with_reducible refine(NC1.out _ D0.out.m).mono (Mz.k D0 fun nw1 N1=>?_)))
        refine⟨⟨_,_,rfl,HG.out.1,N1.out⟩,?_⟩;rw[N1.out.m.pOf,HP.out];have h1:=HG.out.2;have h2:=HG.out.1.p;unfold jb at h1;simp only[aH,bP,bp] at h1;simp only[Nx];omega)
    ·have u1:¬(u.p:Int)<(F.length:Int):=by omega
     have d1:decide ((u.p:Int)<(F.length:Int))=false:=aE u1;go_wp2_with fail;go_quiet (fail);go_wp2_with fail;first|go_end0|refine bn ?_
     exact⟨rfl,by rw[←HS.out.t,xT hL hup hlt];exact QD.out _⟩
theorem sL:w.ownsRow B e sz (.slice none 0 0) 0 []:=⟨by simp,.inl ⟨rfl,rfl⟩⟩
theorem Jg (F:List Lf) (fv:Value) (w:World) (hF:FB F) (hR:Rd w w.heap.size 4 fv F.length (gv F)) :
    Calls Tryz.prog 32 #[fv] w fun e w'=>∃v,e=.returned v∧w'.ownsRow w.heap.size 52 4 v (ei F).l.length (fm (ei F).l)∧Below w.heap.size w w':=by
  have hL:=fU F (F.length+1);have hi:Bd F 1 (fG 1 (gO 0)):=⟨bq _,by show (([]:List Nd)++[_]).length≤46*0+1;simp,by show 0≤200;omega⟩;have hg:=sU hL _ (fG 1 (gO 0),false) rfl hi.p;have hn:=hF.n;have hx:∀W0,Mk w.heap.size fv F (gO 0) W0→Calls Tryz.prog 51 #[.pointer (some ⟨w.heap.size,0,none⟩),.int .i64 1,.func (.func 52) #[.pointer (some ⟨w.heap.size,0,none⟩)] #[]] W0 fun e w'=>e=.returned (.tuple #[])∧Mz w.heap.size fv F W0 (ei F) w':=fun W0 h0=>by
    have h1:=hg.1.l;have h2:=hg.2;have h3:(fG 1 (gO 0)).l.length=1:=rfl;rw[h3] at h1
    exact tD (t:=(jj F (lz F) (fG 1 (gO 0),false)).1) 1 _ h0 (by show 0≤50000;omega) (by omega) (enters_of Tryz.func52 (by kernel_rfl) rfl)
      (fun W1 z1=>CS (q:=0) hF hL (As hF (F.length+1) 0 (by omega)) z1.m rfl (hi.mono (by omega)) ⟨hi.p,hi.d,by show 1+4≤16*0+5;omega,rfl⟩) (bQ Nat.zero_lt_one h1) (by show (jj F (je F (F.length+1)) (fG 1 (gO 0),false)).1.p≤100000;rw[h2];omega)
  obtain⟨A,c,rfl⟩:=hR.formm;have HX:=ac hx;have HR:=ac hR;clear hx hR hg hi hL;go_enter Tryz.func32,Tryz.ntmps32;go_upto_region 2 with fail
  refine li fun W0 hb0 k0 hs0=>?_
  have M0:Mk w.heap.size _ F (gO 0) W0:=⟨⟨.slice none 0 0,k0,sL _ _ _ _⟩,HR.out.keep hb0 (au _)⟩;have HM:=ac M0;have HB:=ac hb0;clear hb0 k0 hs0 M0;go_wp2_with (
    (go_at_call 51;refine(HX.out _ HM.out).mono ?_;rintro e w1 ⟨rfl,hz⟩;obtain⟨lv,hb1,ho1⟩:=hz.m.w;obtain⟨c0,c1,c2,c3,c4⟩:=hb1.fivem;have H1:=ac (ae hz.f.hb ho1);clear hz hb1 ho1))
  go_ret;exact⟨_,rfl,H1.out.2,HB.out.trans H1.out.1⟩
end Go.Proofs.YtmclohkaiemnaaaGreatDoor
