/- The parser: lists and programs. -/
import Derived.Test.YtfagdpfgifgnoaaGreatDoorPz13
set_option linter.unusedVariables false
set_option linter.unusedSimpArgs false
set_option maxRecDepth 100000
set_option maxHeartbeats 8000000
namespace Go.Proofs.YtfagdpfgifgnoaaGreatDoor
open Go.RowKit
variable {b:Bool} {F:List Lf} {g q:Nat} {s T u:Ps} {L:Ps→Ps} {fv:Value} {W:World} (w:World) (B e sz:Nat)
theorem jk (hF:FB F) (hL:GL F L) (HL:cJ g fv F L q) (h:Mk g fv F s W) (hq:q≤s.p+1) (hB:Bd F 20 s) :
    Calls Tryz.prog 64 #[.pointer (some ⟨g,0,none⟩),.int .i64 3,.func (.func 100) #[.pointer (some ⟨g,0,none⟩)] #[]] W fun e w'=>e=.returned (.tuple #[])∧Mz g fv F W (an 3 (bv F L) s) w':=by
  have hi:=hB.inn 3;have hg:=jU hL hi.p;have hn:=hF.n;have h1:=hg.l;have h2:=hg.N;rw[jq] at h1;exact pV (t:=bv F L (ma 3 s)) 3 _ h (hB.l5 hF (by omega)) (by omega) (enters_of Tryz.func100 (by kernel_rfl) rfl) (fun W1 z1=>CM hF hL HL z1.m hq (hi.mono (by omega))) (by omega) (by omega)
theorem B4 (hF:FB F) (hL:GL F L) (HL:cJ g fv F L q) (h:Mk g fv F s W) (hq:q≤s.p+1) (hB:Bd F 20 s) :
    f9 88 g fv F W (.tuple #[]) (nm F L s):=by
  obtain⟨T,hT⟩:∃T,T=nm F L s:=⟨_,rfl⟩;rw[←hT];have HT:=Lib.hid hT;clear hT;have H0:=Lib.hid (Mz.start h);clear h;go_enter Tryz.func88,Tryz.ntmps88;go_wp2_with fail;go_step3;go_wp2_with fail;go_step3;go_wp2_with fail;go_loopw [] (fun wr=>∃u:Ps,q≤u.p+1∧Bd F 20 u∧(aZ F.length (fun s=>cR F (an 3 (bv F L) s))) u=(aZ F.length (fun s=>cR F (an 3 (bv F L) s))) s∧Mz g fv F W u wr) (fun wr=>F.length-pOf g wr)
  case atStart=>exact⟨_,hq,hB,rfl,H0.out⟩
  case round=>
    obtain⟨u,hqu,hBu,hlu,hz⟩:=hrel;have U0:=Lib.hid hz;have HU:=Lib.hid hlu;have hup:=hz.m.pOf;have HP:=Lib.hid hup;clear hz hlu hup;have hgv:=Gd.node0 (k:=3) (s:=u) (f:=bv F L) (A:=2) (N:=F.length) fun t ht _=>jU hL (by rw[ht];exact hBu.p)
    have hBv:=hBu.gd hgv
    cases ha:am F [59,38] (an 3 (bv F L) u)
    ·cases hk:am F [110] (an 3 (bv F L) u)
     ·have e9:=Lib.hid (kM hBv.p hk);have HE:=Lib.hid (HU.out.symm.trans (LC.stepn (gr hL) hBu.p (t:=an 3 (bv F L) u) (by show cR F (an 3 (bv F L) u)=_;unfold cR;rw[if_neg (by rw[ha];decide),if_neg (by rw[hk];decide)])));have NC1:=Lib.hid (fun W1 (h1:Mk g fv F (u) W1)=>jk hF hL HL h1 hqu hBu);have NC2:=Lib.hid (fun W1 (h1:Mk g fv F (an 3 (bv F L) u) W1)=>bB hF h1 hBv.p [59,38] (by decide) ha);have NC3:=Lib.hid (fun W1 (h1:Mk g fv F (an 3 (bv F L) u) W1)=>fN hF h1 hBv.p hk)
      go_wp2_with (first
        | (go_at_call 64;with_reducible refine(NC1.out _ U0.out.m).mono (Mz.k U0 fun nw1 N1=>?_))
        | (go_at_call 87;with_reducible refine(NC2.out _ N1.out.m).mono (Mz.k N1 fun nw2 N2=>?_))
        | (go_at_call 106;with_reducible refine(NC3.out _ N2.out.m).mono (Mz.k N2 fun nw3 N3=>?_))
        | fail)
      try rw[Exit.noGoto_normal]
      first|go_end0|refine bn ?_
      refine⟨rfl,?_⟩;rw[HT.out];unfold nm;rw[HE.out];rw[←e9.out];exact N3.out
     ·have hg3:=ar (F:=F) hBv.p;have hB3:=hBv.gd hg3
      cases hp:bH F (ac F (an 3 (bv F L) u))
      ·have HE:=Lib.hid (HU.out.symm.trans (LC.stepn (gr hL) hBu.p (t:=ac F (an 3 (bv F L) u)) (by show cR F (an 3 (bv F L) u)=_;unfold cR;rw[if_neg (by rw[ha];decide),if_pos hk,hp])));have NC1:=Lib.hid (fun W1 (h1:Mk g fv F (u) W1)=>jk hF hL HL h1 hqu hBu);have NC2:=Lib.hid (fun W1 (h1:Mk g fv F (an 3 (bv F L) u) W1)=>bB hF h1 hBv.p [59,38] (by decide) ha);have NC3:=Lib.hid (fun W1 (h1:Mk g fv F (an 3 (bv F L) u) W1)=>eW hF h1 hBv.p hk);have NC4:=Lib.hid (fun W1 (h1:Mk g fv F (ac F (an 3 (bv F L) u)) W1)=>iS hF h1 hB3.p hp)
       go_wp2_with (first
         | (go_at_call 64;with_reducible refine(NC1.out _ U0.out.m).mono (Mz.k U0 fun nw1 N1=>?_))
         | (go_at_call 87;with_reducible refine(NC2.out _ N1.out.m).mono (Mz.k N1 fun nw2 N2=>?_))
         | (go_at_call 106;with_reducible refine(NC3.out _ N2.out.m).mono (Mz.k N2 fun nw3 N3=>?_))
         | (go_at_call 53;with_reducible refine(NC4.out _ N3.out.m).mono (Mz.k N3 fun nw4 N4=>?_))
         | fail)
       try rw[Exit.noGoto_normal]
       first|go_end0|refine bn ?_
       refine⟨rfl,?_⟩;rw[HT.out];unfold nm;rw[HE.out];exact N4.out
      ·have hy:=LC.y (gr hL u hBu.p) (t:=ac F (an 3 (bv F L) u)) (by show cR F (an 3 (bv F L) u)=_;unfold cR;rw[if_neg (by rw[ha];decide),if_pos hk,hp]);have HE:=Lib.hid ((LC.stepy (gr hL) hBu.p (t:=ac F (an 3 (bv F L) u)) (by show cR F (an 3 (bv F L) u)=_;unfold cR;rw[if_neg (by rw[ha];decide),if_pos hk,hp])).symm.trans HU.out);have YC1:=Lib.hid (fun W1 (h1:Mk g fv F (u) W1)=>jk hF hL HL h1 hqu hBu);have YC2:=Lib.hid (fun W1 (h1:Mk g fv F (an 3 (bv F L) u) W1)=>bB hF h1 hBv.p [59,38] (by decide) ha);have YC3:=Lib.hid (fun W1 (h1:Mk g fv F (an 3 (bv F L) u) W1)=>eW hF h1 hBv.p hk);have YC4:=Lib.hid (fun W1 (h1:Mk g fv F (ac F (an 3 (bv F L) u)) W1)=>iR hF h1 hB3.p hp)
       go_wp2_with (first
         | (go_at_call 64;with_reducible refine(YC1.out _ U0.out.m).mono (Mz.k U0 fun yw1 Y1=>?_))
         | (go_at_call 87;with_reducible refine(YC2.out _ Y1.out.m).mono (Mz.k Y1 fun yw2 Y2=>?_))
         | (go_at_call 106;with_reducible refine(YC3.out _ Y2.out.m).mono (Mz.k Y2 fun yw3 Y3=>?_))
         | (go_at_call 53;with_reducible refine(YC4.out _ Y3.out.m).mono (Mz.k Y3 fun yw4 Y4=>?_))
         | fail)
       refine⟨⟨_,Nat.le_trans hqu (Nat.succ_le_succ (Nat.le_of_lt hy.2)),hBu.gd hy.1,HE.out,Y4.out⟩,?_⟩;rw[Y4.out.m.pOf,HP.out]
       have:=hy.2
       have:=hy.1.N
       omega
    ·have hlt:=au ha (by decide);have hn2:=hBv.next hlt (by omega);have hg3:=ar (F:=F) hn2.p;have hB3:=hn2.gd hg3
     cases hp:bH F (ac F (ai (an 3 (bv F L) u)))
     ·have HE:=Lib.hid (HU.out.symm.trans (LC.stepn (gr hL) hBu.p (t:=ac F (ai (an 3 (bv F L) u))) (by show cR F (an 3 (bv F L) u)=_;unfold cR;rw[if_pos ha,hp])));have NC1:=Lib.hid (fun W1 (h1:Mk g fv F (u) W1)=>jk hF hL HL h1 hqu hBu);have NC2:=Lib.hid (fun W1 (h1:Mk g fv F (an 3 (bv F L) u) W1)=>bW hF h1 hBv.p [59,38] (by decide) ha);have NC3:=Lib.hid (fun W1 (h1:Mk g fv F (ai (an 3 (bv F L) u)) W1)=>bF hF h1 hn2.p);have NC4:=Lib.hid (fun W1 (h1:Mk g fv F (ac F (ai (an 3 (bv F L) u))) W1)=>iS hF h1 hB3.p hp)
      go_wp2_with (first
        | (go_at_call 64;with_reducible refine(NC1.out _ U0.out.m).mono (Mz.k U0 fun nw1 N1=>?_))
        | (go_at_call 87;with_reducible refine(NC2.out _ N1.out.m).mono (Mz.k N1 fun nw2 N2=>?_))
        | (go_at_call 106;with_reducible refine(NC3.out _ N2.out.m).mono (Mz.k N2 fun nw3 N3=>?_))
        | (go_at_call 53;with_reducible refine(NC4.out _ N3.out.m).mono (Mz.k N3 fun nw4 N4=>?_))
        | fail)
      try rw[Exit.noGoto_normal]
      first|go_end0|refine bn ?_
      refine⟨rfl,?_⟩;rw[HT.out];unfold nm;rw[HE.out];exact N4.out
     ·have hy:=LC.y (gr hL u hBu.p) (t:=ac F (ai (an 3 (bv F L) u))) (by show cR F (an 3 (bv F L) u)=_;unfold cR;rw[if_pos ha,hp]);have HE:=Lib.hid ((LC.stepy (gr hL) hBu.p (t:=ac F (ai (an 3 (bv F L) u))) (by show cR F (an 3 (bv F L) u)=_;unfold cR;rw[if_pos ha,hp])).symm.trans HU.out);have YC1:=Lib.hid (fun W1 (h1:Mk g fv F (u) W1)=>jk hF hL HL h1 hqu hBu);have YC2:=Lib.hid (fun W1 (h1:Mk g fv F (an 3 (bv F L) u) W1)=>bW hF h1 hBv.p [59,38] (by decide) ha);have YC3:=Lib.hid (fun W1 (h1:Mk g fv F (ai (an 3 (bv F L) u)) W1)=>bF hF h1 hn2.p);have YC4:=Lib.hid (fun W1 (h1:Mk g fv F (ac F (ai (an 3 (bv F L) u))) W1)=>iR hF h1 hB3.p hp)
      go_wp2_with (first
        | (go_at_call 64;with_reducible refine(YC1.out _ U0.out.m).mono (Mz.k U0 fun yw1 Y1=>?_))
        | (go_at_call 87;with_reducible refine(YC2.out _ Y1.out.m).mono (Mz.k Y1 fun yw2 Y2=>?_))
        | (go_at_call 106;with_reducible refine(YC3.out _ Y2.out.m).mono (Mz.k Y2 fun yw3 Y3=>?_))
        | (go_at_call 53;with_reducible refine(YC4.out _ Y3.out.m).mono (Mz.k Y3 fun yw4 Y4=>?_))
        | fail)
      refine⟨⟨_,Nat.le_trans hqu (Nat.succ_le_succ (Nat.le_of_lt hy.2)),hBu.gd hy.1,HE.out,Y4.out⟩,?_⟩;rw[Y4.out.m.pOf,HP.out]
      have:=hy.2
      have:=hy.1.N
      omega
theorem yF {g:Nat} {fv:Value} {F:List Lf} (hF:FB F):∀n q,F.length+1≤n+q→cJ g fv F (ef F n) q
  | 0,q,hn=>fun s W hq hB h=>by have:=hB.p;omega
  | n+1,q,hn=>fun s W hq hB h=>B4 (q:=q+1) hF (cy F n) (yF hF n (q+1) (by omega)) h (by omega) hB
structure Pg (F:List Lf) (L:Ps→Ps) (T u:Ps) (b:Bool):Prop where
  p:u.p≤F.length
  d:u.deep≤200
  l:u.l.length+(if b=true then 0 else 4)≤16*u.p+5
  t:(eV F L (u,b)).1=T
theorem Pg.bd (h:Pg F L T u b):Bd F 5 u:=⟨h.p,by have:=h.l;omega,h.d⟩
theorem Pg.step {F:List Lf} {L:Ps→Ps} {T u t:Ps} {b b':Bool} (hL:GL F L) (h:Pg F L T u b) (e:bV F L (u,b)=((t,b'),true)):Pg F L T t b'∧fJ (u,b)<fJ (t,b'):=by
  have h1:=iN hL (u,b) h.p (by rw[e]);rw[e] at h1;obtain⟨h2,h3,h4,h5⟩:=h1;replace h3:t.p≤F.length:=h3;replace h5:t.l.length+16*u.p+(if b'=true then 0 else 4)≤u.l.length+16*t.p+(if b=true then 0 else 4):=h5;refine⟨⟨h3,by have:=h4.dp;show t.deep≤200;rw[this];exact h.d,by have:=h.l;omega,?_⟩,h2⟩;rw[←h.t,fI hL (u,b) h.p,e];rfl
theorem uH:w.ownsRow B e sz (.slice none 0 0) 0 []:=⟨by simp,.inl ⟨rfl,rfl⟩⟩
end Go.Proofs.YtfagdpfgifgnoaaGreatDoor
