/- The parser: for, no word behind it. -/
import Derived.Test.YtcagfamdoaoimaaGreatDoorPt13
set_option linter.unusedVariables false
set_option linter.unusedSimpArgs false
set_option maxRecDepth 100000
set_option maxHeartbeats 8000000
namespace Go.Proofs.YtcagfamdoaoimaaGreatDoor
open Go.RowKit
variable {F:List Lf} {g q:Nat} {s:Ps} {L:Ps→Ps} {fv:Value} {W:World}
theorem Jy (hF:FB F) (h:Mk g fv F s W) (hB:Bd F 100 s) (hs:s.p<F.length) :
    Calls Tryz.prog 103 #[.pointer (some ⟨g,0,none⟩),.int .i64 6] W fun e w'=>e=.returned (.tuple #[])∧Mz g fv F W (ez 6 s) w':=wV 6 (by omega) hF h hB hs
theorem lR (hF:FB F) (h:Mk g fv F s W) (hB:Bd F 100 s) (hs:s.p<F.length) :
    Calls Tryz.prog 103 #[.pointer (some ⟨g,0,none⟩),.int .i64 7] W fun e w'=>e=.returned (.tuple #[])∧Mz g fv F W (ez 7 s) w':=wV 7 (by omega) hF h hB hs
theorem yV (hF:FB F) (h:Mk g fv F s W) (hB:Bd F 100 s) (hs:s.p<F.length) :
    Calls Tryz.prog 103 #[.pointer (some ⟨g,0,none⟩),.int .i64 17] W fun e w'=>e=.returned (.tuple #[])∧Mz g fv F W (ez 17 s) w':=wV 17 (by omega) hF h hB hs
theorem qE (hs:s.p≤F.length) (h:dQ F [110] s=false):dK F s=s:=
  LC.stepn kV hs (by show (if _ then _ else _)=_;rw[aB (by rw[h];decide)])
theorem J1 (hF:FB F) (hL:GL F L) (HL:gH g fv F L q) (h:Mk g fv F s W) (hq:q≤s.p) (hB:Bd F 0 s) (hw:iM F s.p=false) :
    lD 254 g fv F W (.tuple #[]) (gF F L s):=by
  have hmix:Tryz.prog.follows .mixedOrders=true:=by kernel_rfl
  obtain⟨T,hT⟩:∃T,T=gF F L s:=⟨_,rfl⟩;rw[←hT];have HT:=aa hT;clear hT;have hn:=hF.n;have hw0:=fun W1 (h1:Mk g fv F s W1)=>ms hF h1 hB.p
  rw[hw] at hw0;have HW:=aa hw0;obtain⟨y0,y1,y3,y4,_⟩:=h.cells;obtain⟨A,c,hfv⟩:=h.f.formm;have H0:=aa (Mz.start h);clear h hw0 y3 y4 hfv;have hcond:(iM F s.p&&i4 (tx F s.p))=false:=by rw[hw];rfl
  have hg1:=ig (F:=F) hB.p;have hB1:=hB.gd hg1;have hq1:=aA hq hg1.p;go_enter Tryz.func254,Tryz.ntmps254;go_wp2_with fail;obtain⟨S0,hS0⟩:∃S0:World→Prop,S0=fun w'=>Below W.heap.size W w':=⟨_,rfl⟩
  refine wp_region_held (S:=S0) hmix ?_;show wpAnyH _ _ _ _ _ _ _ _ W.drew;have hS1:S0 W.drew:=by rw[hS0];exact(aC _ W).drew
  have tc:∀(w':World),S0 w'→∀(a:Addr) (v:Value),W.cell? a=some v→w'.cell? a=some v:=fun w' h a v hc=>DT (by rw[hS0] at h;exact h) hc
  refine tk 0 (.pointer (some ⟨g,0,none⟩)) hS1 (fun w' hS=>?_) ?_
  ·go_simp
  try simp only[Act.put,am,ai,aj,ae,an,ar]
  refine wpAnyH_all (rs:=[1]) (by decide +kernel) (by simp) (o8 rfl (by rfl) (fun K2 hK2=>?_) (o9 (S:=S0)));go_simp;go_at_call 261;refine(HW.out _ (H0.out.m.next (aC _ W).drew).1).mono ?_;rintro e w1 ⟨rfl,hz⟩;have HB:=aa ((aC _ W).drew.trans hz);clear hz;have hS2:S0 w1:=by rw[hS0];exact HB.out
  refine hK2 _ _ hS2 ?_;clear hK2 K2;try simp only[Act.put,am,ai,aj,ae,an,ar]
  refine tk 2 (.bool false) hS2 (fun w' hS=>?_) ?_
  ·go_simp
  try simp only[Act.put,am,ai,aj,ae,an,ar]
  refine sk 3 hS2 ?_;try simp only[Act.put,am,ai,aj,ae,an,ar]
  refine sk 4 hS2 ?_;try simp only[Act.put,am,ai,aj,ae,an,ar]
  refine sk 5 hS2 ?_;try simp only[Act.put,am,ai,aj,ae,an,ar]
  refine sk 6 hS2 ?_;try simp only[Act.put,am,ai,aj,ae,an,ar]
  refine sk 7 hS2 ?_;try simp only[Act.put,am,ai,aj,ae,an,ar]
  refine sk 8 hS2 ?_;try simp only[Act.put,am,ai,aj,ae,an,ar]
  refine sk 9 hS2 ?_;try simp only[Act.put,am,ai,aj,ae,an,ar]
  refine sk 10 hS2 ?_;try simp only[Act.put,am,ai,aj,ae,an,ar]
  refine sk 11 hS2 ?_;try simp only[Act.put,am,ai,aj,ae,an,ar]
  refine sk 12 hS2 ?_;try simp only[Act.put,am,ai,aj,ae,an,ar]
  refine sk 13 hS2 ?_;try simp only[Act.put,am,ai,aj,ae,an,ar]
  refine sk 14 hS2 ?_;try simp only[Act.put,am,ai,aj,ae,an,ar]
  refine tk 15 (.bool false) hS2 (fun w' hS=>?_) ?_
  ·go_simp
  try simp only[Act.put,am,ai,aj,ae,an,ar]
  refine wpAnyH_done (by decide +kernel) ?_ _;have E0:=aa (H0.out.next HB.out);clear hS0 hS1 hS2 tc
  cases ha:dQ F [59] (eS s)
  ·have hg3:=dY (F:=F) hB1.p;have hB3:=hB1.gd hg3;have hq3:=aA hq1 hg3.p
   cases hk:dQ F [107] (dK F (eS s))
   ·have AC1:=aa (fun W1 (h1:Mk g fv F (s) W1)=>fT hF h1 (hB.mono (by omega)));have AC2:=aa (fun W1 (h1:Mk g fv F (eS s) W1)=>fA hF h1 hB1.p [59] (by decide) ha);have AC3:=aa (fun W1 (h1:Mk g fv F (eS s) W1)=>fM hF h1 hB1.p);have AC4:=aa (fun W1 (h1:Mk g fv F (dK F (eS s)) W1)=>fA hF h1 hB3.p [107] (by decide) hk);have AC5:=aa (fun W1 (h1:Mk g fv F (dK F (eS s)) W1)=>iY hF hL HL h1 hq3 (hB3.mono (by omega)))
    go_wp2_with (first
      | (go_at_call 204;with_reducible refine(AC1.out _ E0.out.m).mono (Mz.k E0 fun aw1 A1=>?_))
      | (go_at_call 100;with_reducible refine(AC2.out _ A1.out.m).mono (Mz.k A1 fun aw2 A2=>?_))
      | (go_at_call 138;with_reducible refine(AC3.out _ A2.out.m).mono (Mz.k A2 fun aw3 A3=>?_))
      | (go_at_call 100;with_reducible refine(AC4.out _ A3.out.m).mono (Mz.k A3 fun aw4 A4=>?_))
      | (go_at_call 266;with_reducible refine(AC5.out _ A4.out.m).mono (Mz.k A4 fun aw5 A5=>?_))
      | fail)
    first|go_end0|refine bn ?_
    refine⟨rfl,?_⟩;rw[HT.out];unfold gF;simp only[hcond,bp,aI];rw[aB (by rw[ha];decide),aB (by rw[hk];decide)];exact A5.out
   ·have hlt3:=eh hk (by decide);have hn4:=hB3.next hlt3 (by omega);have hq4:q≤(dM (dK F (eS s))).p:=aA hq3 (cg _);have AC1:=aa (fun W1 (h1:Mk g fv F (s) W1)=>fT hF h1 (hB.mono (by omega)));have AC2:=aa (fun W1 (h1:Mk g fv F (eS s) W1)=>fA hF h1 hB1.p [59] (by decide) ha);have AC3:=aa (fun W1 (h1:Mk g fv F (eS s) W1)=>fM hF h1 hB1.p);have AC4:=aa (fun W1 (h1:Mk g fv F (dK F (eS s)) W1)=>fV hF h1 hB3.p [107] (by decide) hk)
    go_wp2_with (first
      | (go_at_call 204;with_reducible refine(AC1.out _ E0.out.m).mono (Mz.k E0 fun aw1 A1=>?_))
      | (go_at_call 100;with_reducible refine(AC2.out _ A1.out.m).mono (Mz.k A1 fun aw2 A2=>?_))
      | (go_at_call 138;with_reducible refine(AC3.out _ A2.out.m).mono (Mz.k A2 fun aw3 A3=>?_))
      | (go_at_call 100;with_reducible refine(AC4.out _ A3.out.m).mono (Mz.k A3 fun aw4 A4=>?_))
      | fail)
    go_loopw [] (fun wr=>∃u:Ps,q≤u.p∧Bd F 0 u∧(eO F.length (fun s=>if iM F s.p=true then (ez 7 s,true) else (s,false))) u=(eO F.length (fun s=>if iM F s.p=true then (ez 7 s,true) else (s,false))) (dM (dK F (eS s)))∧Mz g fv F W u wr) (fun wr=>F.length-pOf g wr)
    case atStart=>exact⟨_,hq4,hn4,rfl,A4.out⟩
    case round=>
      obtain⟨u,hqu,hBu,hlu,hz⟩:=hrel;have U0:=aa hz;have HU:=aa hlu;have hup:=hz.m.pOf;have HP:=aa hup;clear hz hlu hup
      cases hb:iM F u.p
      ·have HE:=aa (HU.out.symm.trans (LC.stepn iO hBu.p (t:=u) (by show (if _ then _ else _)=_;rw[aB (by rw[hb];decide)])))
       cases hs9:dQ F [59] u
       ·have hg7:=dY (F:=F) hBu.p;have hB7:=hBu.gd hg7;have hq7:=aA hqu hg7.p
        cases hy9:dQ F [110] u
        ·have hg8:=ig (F:=F) hB7.p;have hB8:=hB7.gd hg8;have hq8:=aA hq7 hg8.p;have e9:=aa (qE hBu.p hy9);have NC1:=aa (fun W1 (h1:Mk g fv F (u) W1)=>gk hF h1 hBu.p hb);have NC2:=aa (fun W1 (h1:Mk g fv F (u) W1)=>fA hF h1 hBu.p [59] (by decide) hs9);have NC3:=aa (fun W1 (h1:Mk g fv F (u) W1)=>lq hF h1 hBu.p hy9);have NC4:=aa (fun W1 (h1:Mk g fv F (dK F u) W1)=>fT hF h1 (hB7.mono (by omega)));have NC5:=aa (fun W1 (h1:Mk g fv F (eS (dK F u)) W1)=>iY hF hL HL h1 hq8 (hB8.mono (by omega)))
         go_wp2_with (first
           | (go_at_call 261;with_reducible refine(NC1.out _ U0.out.m).mono (Mz.k U0 fun nw1 N1=>?_))
           | (go_at_call 100;with_reducible refine(NC2.out _ N1.out.m).mono (Mz.k N1 fun nw2 N2=>?_))
           | (go_at_call 138;with_reducible refine(NC3.out _ N2.out.m).mono (Mz.k N2 fun nw3 N3=>?_))
           | (go_at_call 204;with_reducible refine(NC4.out _ N3.out.m).mono (Mz.k N3 fun nw4 N4=>?_))
           | (go_at_call 266;with_reducible refine(NC5.out _ N4.out.m).mono (Mz.k N4 fun nw5 N5=>?_))
           | fail)
         first|go_end0|refine bn ?_
         refine⟨rfl,?_⟩;rw[HT.out];unfold gF;simp only[hcond,bp,aI];rw[aB (by rw[ha];decide),aD hk];unfold za jA;simp only;rw[HE.out];rw[aB (by rw[hs9];decide),aB (by rw[hy9];decide)];rw[←show eS (dK F u)=eS u by rw[e9.out]];exact N5.out
        ·have NC1:=aa (fun W1 (h1:Mk g fv F (u) W1)=>gk hF h1 hBu.p hb);have NC2:=aa (fun W1 (h1:Mk g fv F (u) W1)=>fA hF h1 hBu.p [59] (by decide) hs9);have NC3:=aa (fun W1 (h1:Mk g fv F (u) W1)=>jZ hF h1 hBu.p hy9);have NC4:=aa (fun W1 (h1:Mk g fv F (dK F u) W1)=>iY hF hL HL h1 hq7 (hB7.mono (by omega)))
         go_wp2_with (first
           | (go_at_call 261;with_reducible refine(NC1.out _ U0.out.m).mono (Mz.k U0 fun nw1 N1=>?_))
           | (go_at_call 100;with_reducible refine(NC2.out _ N1.out.m).mono (Mz.k N1 fun nw2 N2=>?_))
           | (go_at_call 138;with_reducible refine(NC3.out _ N2.out.m).mono (Mz.k N2 fun nw3 N3=>?_))
           | (go_at_call 266;with_reducible refine(NC4.out _ N3.out.m).mono (Mz.k N3 fun nw4 N4=>?_))
           | fail)
         first|go_end0|refine bn ?_
         refine⟨rfl,?_⟩;rw[HT.out];unfold gF;simp only[hcond,bp,aI];rw[aB (by rw[ha];decide),aD hk];unfold za jA;simp only;rw[HE.out];rw[aB (by rw[hs9];decide),aD hy9];exact N4.out
       ·have hlt5:=eh hs9 (by decide);have hn6:=hBu.next hlt5 (by omega);have hg7:=dY (F:=F) hn6.p;have hB7:=hn6.gd hg7;have hq7:q≤(dK F (dM u)).p:=aA hqu (aA (cg _) hg7.p)
        cases hy9:dQ F [110] (dM u);have NC1:=aa (fun W1 (h1:Mk g fv F (u) W1)=>gk hF h1 hBu.p hb);have NC2:=aa (fun W1 (h1:Mk g fv F (u) W1)=>fV hF h1 hBu.p [59] (by decide) hs9);have NC3:=aa (fun W1 (h1:Mk g fv F (dM u) W1)=>lq hF h1 hn6.p hy9)
        rotate_left
        have NC1:=aa (fun W1 (h1:Mk g fv F (u) W1)=>gk hF h1 hBu.p hb);have NC2:=aa (fun W1 (h1:Mk g fv F (u) W1)=>fV hF h1 hBu.p [59] (by decide) hs9);have NC3:=aa (fun W1 (h1:Mk g fv F (dM u) W1)=>jZ hF h1 hn6.p hy9)
        rotate_left
        all_goals (
          have NC4:=aa (fun W1 (h1:Mk g fv F (dK F (dM u)) W1)=>iY hF hL HL h1 hq7 (hB7.mono (by omega)))
          go_wp2_with (first
            | (go_at_call 261;with_reducible refine(NC1.out _ U0.out.m).mono (Mz.k U0 fun nw1 N1=>?_))
            | (go_at_call 100;with_reducible refine(NC2.out _ N1.out.m).mono (Mz.k N1 fun nw2 N2=>?_))
            | (go_at_call 138;with_reducible refine(NC3.out _ N2.out.m).mono (Mz.k N2 fun nw3 N3=>?_))
            | (go_at_call 266;with_reducible refine(NC4.out _ N3.out.m).mono (Mz.k N3 fun nw4 N4=>?_))
            | fail)
          first|go_end0|refine bn ?_
          refine⟨rfl,?_⟩;rw[HT.out];unfold gF;simp only[hcond,bp,aI];rw[aB (by rw[ha];decide),aD hk];unfold za jA;simp only;rw[HE.out];rw[aD hs9];exact N4.out)
      ·have hlu2:=fR hb;have hy:=LC.y (iO u hBu.p) (t:=ez 7 u) (by show (if _ then _ else _)=_;rw[aD hb]);have HE:=aa ((LC.stepy iO hBu.p (t:=ez 7 u) (by show (if _ then _ else _)=_;rw[aD hb])).symm.trans HU.out);have YC1:=aa (fun W1 (h1:Mk g fv F (u) W1)=>iR hF h1 hBu.p hb);have YC2:=aa (fun W1 (h1:Mk g fv F (u) W1)=>lR hF h1 (hBu.mono (by omega)) hlu2)
       go_wp2_with (first
         | (go_at_call 261;with_reducible refine(YC1.out _ U0.out.m).mono (Mz.k U0 fun yw1 Y1=>?_))
         | (go_at_call 103;with_reducible refine(YC2.out _ Y1.out.m).mono (Mz.k Y1 fun yw2 Y2=>?_))
         | fail)
       refine⟨⟨_,aA hqu (bq hy.2),hBu.gd hy.1,HE.out,Y2.out⟩,?_⟩;rw[Y2.out.m.pOf,HP.out]
       have:=hy.2
       have:=hy.1.N
       omega
  ·have hlt2:=eh ha (by decide);have hn2:=hB1.next hlt2 (by omega);have hg3:=dY (F:=F) hn2.p;have hB3:=hn2.gd hg3;have hq3:q≤(dK F (dM (eS s))).p:=aA hq1 (aA (cg _) hg3.p);have AC1:=aa (fun W1 (h1:Mk g fv F (s) W1)=>fT hF h1 (hB.mono (by omega)));have AC2:=aa (fun W1 (h1:Mk g fv F (eS s) W1)=>fV hF h1 hB1.p [59] (by decide) ha);have AC3:=aa (fun W1 (h1:Mk g fv F (dM (eS s)) W1)=>fM hF h1 hn2.p);have AC4:=aa (fun W1 (h1:Mk g fv F (dK F (dM (eS s))) W1)=>iY hF hL HL h1 hq3 (hB3.mono (by omega)))
   go_wp2_with (first
     | (go_at_call 204;with_reducible refine(AC1.out _ E0.out.m).mono (Mz.k E0 fun aw1 A1=>?_))
     | (go_at_call 100;with_reducible refine(AC2.out _ A1.out.m).mono (Mz.k A1 fun aw2 A2=>?_))
     | (go_at_call 138;with_reducible refine(AC3.out _ A2.out.m).mono (Mz.k A2 fun aw3 A3=>?_))
     | (go_at_call 266;with_reducible refine(AC4.out _ A3.out.m).mono (Mz.k A3 fun aw4 A4=>?_))
     | fail)
   first|go_end0|refine bn ?_
   refine⟨rfl,?_⟩;rw[HT.out];unfold gF;simp only[hcond,bp,aI];rw[aD ha];exact A4.out
theorem JZ (hF:FB F) (hL:GL F L) (HL:gH g fv F L q) (h:Mk g fv F s W) (hq:q≤s.p) (hB:Bd F 0 s) (hw:iM F s.p=true) (hnm:i4 (tx F s.p)=false) :
    lD 254 g fv F W (.tuple #[]) (gF F L s):=by
  have hmix:Tryz.prog.follows .mixedOrders=true:=by kernel_rfl
  obtain⟨T,hT⟩:∃T,T=gF F L s:=⟨_,rfl⟩;rw[←hT];have HT:=aa hT;clear hT;have hn:=hF.n;have hw0:=fun W1 (h1:Mk g fv F s W1)=>ms hF h1 hB.p
  rw[hw] at hw0;have HW:=aa hw0;obtain⟨y0,y1,y3,y4,_⟩:=h.cells;obtain⟨A,c,hfv⟩:=h.f.formm;have H0:=aa (Mz.start h);have hlt:=fR hw;obtain⟨x,hx⟩:∃x,F[s.p]? = some x:=⟨_,ax hlt⟩;have htx:tx F s.p=x.tx:=by unfold tx;rw[hx]
  have htl:=hF.t x (aO hx);have hf9:=h.f;rw[hfv] at hf9;obtain⟨g1,o1,hA9,z0,z1,z2,z3⟩:=jl hf9 hx rfl;rw[hfv,hA9] at y0;have u1:(s.p:Int)<(F.length:Int):=by omega
  have u2:(0:Int)≤(s.p:Int):=by omega
  have hn9:=fun W=>uf x.tx W (by omega)
  rw[←htx] at hn9;rw[hnm] at hn9;rw[htx] at hn9;have HN:=aa hn9;clear hn9 htx hx htl z0 z2 z3 hf9 hA9;clear h hw0 y3 y4 hfv;have hcond:(iM F s.p&&i4 (tx F s.p))=false:=by rw[hw,hnm];rfl
  have hg1:=ig (F:=F) hB.p;have hB1:=hB.gd hg1;have hq1:=aA hq hg1.p;go_enter Tryz.func254,Tryz.ntmps254;go_wp2_with fail;obtain⟨S0,hS0⟩:∃S0:World→Prop,S0=fun w'=>Below W.heap.size W w':=⟨_,rfl⟩
  refine wp_region_held (S:=S0) hmix ?_;show wpAnyH _ _ _ _ _ _ _ _ W.drew;have hS1:S0 W.drew:=by rw[hS0];exact(aC _ W).drew
  have tc:∀(w':World),S0 w'→∀(a:Addr) (v:Value),W.cell? a=some v→w'.cell? a=some v:=fun w' h a v hc=>DT (by rw[hS0] at h;exact h) hc
  refine tk 0 (.pointer (some ⟨g,0,none⟩)) hS1 (fun w' hS=>?_) ?_
  ·go_simp
  try simp only[Act.put,am,ai,aj,ae,an,ar]
  refine wpAnyH_all (rs:=[1]) (by decide +kernel) (by simp) (o8 rfl (by rfl) (fun K2 hK2=>?_) (o9 (S:=S0)));go_simp;go_at_call 261;refine(HW.out _ (H0.out.m.next (aC _ W).drew).1).mono ?_;rintro e w1 ⟨rfl,hz⟩;have HB:=aa ((aC _ W).drew.trans hz);clear hz;have hS2:S0 w1:=by rw[hS0];exact HB.out
  refine hK2 _ _ hS2 ?_;clear hK2 K2;try simp only[Act.put,am,ai,aj,ae,an,ar]
  refine tk 2 (.bool true) hS2 (fun w' hS=>?_) ?_
  ·go_simp
  try simp only[Act.put,am,ai,aj,ae,an,ar]
  refine tk 3 (.pointer (some ⟨g,0,none⟩)) hS2 (fun w' hS=>?_) ?_
  ·go_simp
  try simp only[Act.put,am,ai,aj,ae,an,ar]
  refine tk 4 (.pointer (some ⟨g,0,none⟩)) hS2 (fun w' hS=>?_) ?_
  ·go_simp
  try simp only[Act.put,am,ai,aj,ae,an,ar]
  refine tk 5 (.pointer (some ⟨g,0,none⟩)) hS2 (fun w' hS=>?_) ?_
  ·go_simp
  try simp only[Act.put,am,ai,aj,ae,an,ar]
  refine tk 6 (.slice (some ⟨g1,o1,none⟩) F.length c) hS2 (fun w' hS=>?_) ?_
  ·have c0:=tc w' hS _ _ y0;go_simp
  try simp only[Act.put,am,ai,aj,ae,an,ar]
  refine tk 7 (.pointer (some ⟨g,0,none⟩)) hS2 (fun w' hS=>?_) ?_
  ·go_simp
  try simp only[Act.put,am,ai,aj,ae,an,ar]
  refine tk 8 (.pointer (some ⟨g,0,none⟩)) hS2 (fun w' hS=>?_) ?_
  ·go_simp
  try simp only[Act.put,am,ai,aj,ae,an,ar]
  refine tk 9 (.pointer (some ⟨g,1,none⟩)) hS2 (fun w' hS=>?_) ?_
  ·go_simp
  try simp only[Act.put,am,ai,aj,ae,an,ar]
  refine tk 10 (.int .i64 (s.p:Int)) hS2 (fun w' hS=>?_) ?_
  ·have c0:=tc w' hS _ _ y1;go_simp
  try simp only[Act.put,am,ai,aj,ae,an,ar]
  refine tk 11 (.pointer (some ⟨g1,o1+s.p*4,none⟩)) hS2 (fun w' hS=>?_) ?_
  ·go_simp
  try simp only[Act.put,am,ai,aj,ae,an,ar]
  refine tk 12 (.pointer (some ⟨g1,o1+s.p*4+1,none⟩)) hS2 (fun w' hS=>?_) ?_
  ·go_simp
  try simp only[Act.put,am,ai,aj,ae,an,ar]
  refine tk 13 (.string ⟨x.tx.toArray⟩) hS2 (fun w' hS=>?_) ?_
  ·have c0:=tc w' hS _ _ z1;go_simp
  try simp only[Act.put,am,ai,aj,ae,an,ar]
  refine wpAnyH_all (rs:=[14]) (by decide +kernel) (by simp) (o8 rfl (by rfl) (fun K2 hK2=>?_) (o9 (S:=S0)));go_simp;go_at_call 258;refine(HN.out _).mono ?_;rintro e w2 ⟨rfl,rfl⟩;have hS3:S0 w2:=by rw[hS0];exact HB.out
  refine hK2 _ _ hS3 ?_;clear hK2 K2;try simp only[Act.put,am,ai,aj,ae,an,ar]
  refine tk 15 (.bool false) hS3 (fun w' hS=>?_) ?_
  ·go_simp
  try simp only[Act.put,am,ai,aj,ae,an,ar]
  refine wpAnyH_done (by decide +kernel) ?_ _;have E0:=aa (H0.out.next HB.out);clear hS0 hS1 hS2 tc hS3
  cases ha:dQ F [59] (eS s)
  ·have hg3:=dY (F:=F) hB1.p;have hB3:=hB1.gd hg3;have hq3:=aA hq1 hg3.p
   cases hk:dQ F [107] (dK F (eS s))
   ·have AC1:=aa (fun W1 (h1:Mk g fv F (s) W1)=>fT hF h1 (hB.mono (by omega)));have AC2:=aa (fun W1 (h1:Mk g fv F (eS s) W1)=>fA hF h1 hB1.p [59] (by decide) ha);have AC3:=aa (fun W1 (h1:Mk g fv F (eS s) W1)=>fM hF h1 hB1.p);have AC4:=aa (fun W1 (h1:Mk g fv F (dK F (eS s)) W1)=>fA hF h1 hB3.p [107] (by decide) hk);have AC5:=aa (fun W1 (h1:Mk g fv F (dK F (eS s)) W1)=>iY hF hL HL h1 hq3 (hB3.mono (by omega)))
    go_wp2_with (first
      | (go_at_call 204;with_reducible refine(AC1.out _ E0.out.m).mono (Mz.k E0 fun aw1 A1=>?_))
      | (go_at_call 100;with_reducible refine(AC2.out _ A1.out.m).mono (Mz.k A1 fun aw2 A2=>?_))
      | (go_at_call 138;with_reducible refine(AC3.out _ A2.out.m).mono (Mz.k A2 fun aw3 A3=>?_))
      | (go_at_call 100;with_reducible refine(AC4.out _ A3.out.m).mono (Mz.k A3 fun aw4 A4=>?_))
      | (go_at_call 266;with_reducible refine(AC5.out _ A4.out.m).mono (Mz.k A4 fun aw5 A5=>?_))
      | fail)
    first|go_end0|refine bn ?_
    refine⟨rfl,?_⟩;rw[HT.out];unfold gF;simp only[hcond,bp,aI];rw[aB (by rw[ha];decide),aB (by rw[hk];decide)];exact A5.out
   ·have hlt3:=eh hk (by decide);have hn4:=hB3.next hlt3 (by omega);have hq4:q≤(dM (dK F (eS s))).p:=aA hq3 (cg _);have AC1:=aa (fun W1 (h1:Mk g fv F (s) W1)=>fT hF h1 (hB.mono (by omega)));have AC2:=aa (fun W1 (h1:Mk g fv F (eS s) W1)=>fA hF h1 hB1.p [59] (by decide) ha);have AC3:=aa (fun W1 (h1:Mk g fv F (eS s) W1)=>fM hF h1 hB1.p);have AC4:=aa (fun W1 (h1:Mk g fv F (dK F (eS s)) W1)=>fV hF h1 hB3.p [107] (by decide) hk)
    go_wp2_with (first
      | (go_at_call 204;with_reducible refine(AC1.out _ E0.out.m).mono (Mz.k E0 fun aw1 A1=>?_))
      | (go_at_call 100;with_reducible refine(AC2.out _ A1.out.m).mono (Mz.k A1 fun aw2 A2=>?_))
      | (go_at_call 138;with_reducible refine(AC3.out _ A2.out.m).mono (Mz.k A2 fun aw3 A3=>?_))
      | (go_at_call 100;with_reducible refine(AC4.out _ A3.out.m).mono (Mz.k A3 fun aw4 A4=>?_))
      | fail)
    go_loopw [] (fun wr=>∃u:Ps,q≤u.p∧Bd F 0 u∧(eO F.length (fun s=>if iM F s.p=true then (ez 7 s,true) else (s,false))) u=(eO F.length (fun s=>if iM F s.p=true then (ez 7 s,true) else (s,false))) (dM (dK F (eS s)))∧Mz g fv F W u wr) (fun wr=>F.length-pOf g wr)
    case atStart=>exact⟨_,hq4,hn4,rfl,A4.out⟩
    case round=>
      obtain⟨u,hqu,hBu,hlu,hz⟩:=hrel;have U0:=aa hz;have HU:=aa hlu;have hup:=hz.m.pOf;have HP:=aa hup;clear hz hlu hup
      cases hb:iM F u.p
      ·have HE:=aa (HU.out.symm.trans (LC.stepn iO hBu.p (t:=u) (by show (if _ then _ else _)=_;rw[aB (by rw[hb];decide)])))
       cases hs9:dQ F [59] u
       ·have hg7:=dY (F:=F) hBu.p;have hB7:=hBu.gd hg7;have hq7:=aA hqu hg7.p
        cases hy9:dQ F [110] u
        ·have hg8:=ig (F:=F) hB7.p;have hB8:=hB7.gd hg8;have hq8:=aA hq7 hg8.p;have e9:=aa (qE hBu.p hy9);have NC1:=aa (fun W1 (h1:Mk g fv F (u) W1)=>gk hF h1 hBu.p hb);have NC2:=aa (fun W1 (h1:Mk g fv F (u) W1)=>fA hF h1 hBu.p [59] (by decide) hs9);have NC3:=aa (fun W1 (h1:Mk g fv F (u) W1)=>lq hF h1 hBu.p hy9);have NC4:=aa (fun W1 (h1:Mk g fv F (dK F u) W1)=>fT hF h1 (hB7.mono (by omega)));have NC5:=aa (fun W1 (h1:Mk g fv F (eS (dK F u)) W1)=>iY hF hL HL h1 hq8 (hB8.mono (by omega)))
         go_wp2_with (first
           | (go_at_call 261;with_reducible refine(NC1.out _ U0.out.m).mono (Mz.k U0 fun nw1 N1=>?_))
           | (go_at_call 100;with_reducible refine(NC2.out _ N1.out.m).mono (Mz.k N1 fun nw2 N2=>?_))
           | (go_at_call 138;with_reducible refine(NC3.out _ N2.out.m).mono (Mz.k N2 fun nw3 N3=>?_))
           | (go_at_call 204;with_reducible refine(NC4.out _ N3.out.m).mono (Mz.k N3 fun nw4 N4=>?_))
           | (go_at_call 266;with_reducible refine(NC5.out _ N4.out.m).mono (Mz.k N4 fun nw5 N5=>?_))
           | fail)
         first|go_end0|refine bn ?_
         refine⟨rfl,?_⟩;rw[HT.out];unfold gF;simp only[hcond,bp,aI];rw[aB (by rw[ha];decide),aD hk];unfold za jA;simp only;rw[HE.out];rw[aB (by rw[hs9];decide),aB (by rw[hy9];decide)];rw[←show eS (dK F u)=eS u by rw[e9.out]];exact N5.out
        ·have NC1:=aa (fun W1 (h1:Mk g fv F (u) W1)=>gk hF h1 hBu.p hb);have NC2:=aa (fun W1 (h1:Mk g fv F (u) W1)=>fA hF h1 hBu.p [59] (by decide) hs9);have NC3:=aa (fun W1 (h1:Mk g fv F (u) W1)=>jZ hF h1 hBu.p hy9);have NC4:=aa (fun W1 (h1:Mk g fv F (dK F u) W1)=>iY hF hL HL h1 hq7 (hB7.mono (by omega)))
         go_wp2_with (first
           | (go_at_call 261;with_reducible refine(NC1.out _ U0.out.m).mono (Mz.k U0 fun nw1 N1=>?_))
           | (go_at_call 100;with_reducible refine(NC2.out _ N1.out.m).mono (Mz.k N1 fun nw2 N2=>?_))
           | (go_at_call 138;with_reducible refine(NC3.out _ N2.out.m).mono (Mz.k N2 fun nw3 N3=>?_))
           | (go_at_call 266;with_reducible refine(NC4.out _ N3.out.m).mono (Mz.k N3 fun nw4 N4=>?_))
           | fail)
         first|go_end0|refine bn ?_
         refine⟨rfl,?_⟩;rw[HT.out];unfold gF;simp only[hcond,bp,aI];rw[aB (by rw[ha];decide),aD hk];unfold za jA;simp only;rw[HE.out];rw[aB (by rw[hs9];decide),aD hy9];exact N4.out
       ·have hlt5:=eh hs9 (by decide);have hn6:=hBu.next hlt5 (by omega);have hg7:=dY (F:=F) hn6.p;have hB7:=hn6.gd hg7;have hq7:q≤(dK F (dM u)).p:=aA hqu (aA (cg _) hg7.p)
        cases hy9:dQ F [110] (dM u);have NC1:=aa (fun W1 (h1:Mk g fv F (u) W1)=>gk hF h1 hBu.p hb);have NC2:=aa (fun W1 (h1:Mk g fv F (u) W1)=>fV hF h1 hBu.p [59] (by decide) hs9);have NC3:=aa (fun W1 (h1:Mk g fv F (dM u) W1)=>lq hF h1 hn6.p hy9)
        rotate_left
        have NC1:=aa (fun W1 (h1:Mk g fv F (u) W1)=>gk hF h1 hBu.p hb);have NC2:=aa (fun W1 (h1:Mk g fv F (u) W1)=>fV hF h1 hBu.p [59] (by decide) hs9);have NC3:=aa (fun W1 (h1:Mk g fv F (dM u) W1)=>jZ hF h1 hn6.p hy9)
        rotate_left
        all_goals (
          have NC4:=aa (fun W1 (h1:Mk g fv F (dK F (dM u)) W1)=>iY hF hL HL h1 hq7 (hB7.mono (by omega)))
          go_wp2_with (first
            | (go_at_call 261;with_reducible refine(NC1.out _ U0.out.m).mono (Mz.k U0 fun nw1 N1=>?_))
            | (go_at_call 100;with_reducible refine(NC2.out _ N1.out.m).mono (Mz.k N1 fun nw2 N2=>?_))
            | (go_at_call 138;with_reducible refine(NC3.out _ N2.out.m).mono (Mz.k N2 fun nw3 N3=>?_))
            | (go_at_call 266;with_reducible refine(NC4.out _ N3.out.m).mono (Mz.k N3 fun nw4 N4=>?_))
            | fail)
          first|go_end0|refine bn ?_
          refine⟨rfl,?_⟩;rw[HT.out];unfold gF;simp only[hcond,bp,aI];rw[aB (by rw[ha];decide),aD hk];unfold za jA;simp only;rw[HE.out];rw[aD hs9];exact N4.out)
      ·have hlu2:=fR hb;have hy:=LC.y (iO u hBu.p) (t:=ez 7 u) (by show (if _ then _ else _)=_;rw[aD hb]);have HE:=aa ((LC.stepy iO hBu.p (t:=ez 7 u) (by show (if _ then _ else _)=_;rw[aD hb])).symm.trans HU.out);have YC1:=aa (fun W1 (h1:Mk g fv F (u) W1)=>iR hF h1 hBu.p hb);have YC2:=aa (fun W1 (h1:Mk g fv F (u) W1)=>lR hF h1 (hBu.mono (by omega)) hlu2)
       go_wp2_with (first
         | (go_at_call 261;with_reducible refine(YC1.out _ U0.out.m).mono (Mz.k U0 fun yw1 Y1=>?_))
         | (go_at_call 103;with_reducible refine(YC2.out _ Y1.out.m).mono (Mz.k Y1 fun yw2 Y2=>?_))
         | fail)
       refine⟨⟨_,aA hqu (bq hy.2),hBu.gd hy.1,HE.out,Y2.out⟩,?_⟩;rw[Y2.out.m.pOf,HP.out]
       have:=hy.2
       have:=hy.1.N
       omega
  ·have hlt2:=eh ha (by decide);have hn2:=hB1.next hlt2 (by omega);have hg3:=dY (F:=F) hn2.p;have hB3:=hn2.gd hg3;have hq3:q≤(dK F (dM (eS s))).p:=aA hq1 (aA (cg _) hg3.p);have AC1:=aa (fun W1 (h1:Mk g fv F (s) W1)=>fT hF h1 (hB.mono (by omega)));have AC2:=aa (fun W1 (h1:Mk g fv F (eS s) W1)=>fV hF h1 hB1.p [59] (by decide) ha);have AC3:=aa (fun W1 (h1:Mk g fv F (dM (eS s)) W1)=>fM hF h1 hn2.p);have AC4:=aa (fun W1 (h1:Mk g fv F (dK F (dM (eS s))) W1)=>iY hF hL HL h1 hq3 (hB3.mono (by omega)))
   go_wp2_with (first
     | (go_at_call 204;with_reducible refine(AC1.out _ E0.out.m).mono (Mz.k E0 fun aw1 A1=>?_))
     | (go_at_call 100;with_reducible refine(AC2.out _ A1.out.m).mono (Mz.k A1 fun aw2 A2=>?_))
     | (go_at_call 138;with_reducible refine(AC3.out _ A2.out.m).mono (Mz.k A2 fun aw3 A3=>?_))
     | (go_at_call 266;with_reducible refine(AC4.out _ A3.out.m).mono (Mz.k A3 fun aw4 A4=>?_))
     | fail)
   first|go_end0|refine bn ?_
   refine⟨rfl,?_⟩;rw[HT.out];unfold gF;simp only[hcond,bp,aI];rw[aD ha];exact A4.out
theorem JY (hF:FB F) (hL:GL F L) (HL:gH g fv F L q) (h:Mk g fv F s W) (hq:q≤s.p) (hB:Bd F 0 s) (hw:iM F s.p=true) (hnm:i4 (tx F s.p)=true) :
    lD 254 g fv F W (.tuple #[]) (gF F L s):=by
  have hmix:Tryz.prog.follows .mixedOrders=true:=by kernel_rfl
  obtain⟨T,hT⟩:∃T,T=gF F L s:=⟨_,rfl⟩;rw[←hT];have HT:=aa hT;clear hT;have hn:=hF.n;have hw0:=fun W1 (h1:Mk g fv F s W1)=>ms hF h1 hB.p
  rw[hw] at hw0;have HW:=aa hw0;obtain⟨y0,y1,y3,y4,_⟩:=h.cells;obtain⟨A,c,hfv⟩:=h.f.formm;have H0:=aa (Mz.start h);have hlt:=fR hw;obtain⟨x,hx⟩:∃x,F[s.p]? = some x:=⟨_,ax hlt⟩;have htx:tx F s.p=x.tx:=by unfold tx;rw[hx]
  have htl:=hF.t x (aO hx);have hf9:=h.f;rw[hfv] at hf9;obtain⟨g1,o1,hA9,z0,z1,z2,z3⟩:=jl hf9 hx rfl;rw[hfv,hA9] at y0;have u1:(s.p:Int)<(F.length:Int):=by omega
  have u2:(0:Int)≤(s.p:Int):=by omega
  have hn9:=fun W=>uf x.tx W (by omega)
  rw[←htx] at hn9;rw[hnm] at hn9;rw[htx] at hn9;have HN:=aa hn9;clear hn9 htx hx htl z0 z2 z3 hf9 hA9;clear h hw0 y3 y4 hfv;have hcond:(iM F s.p&&i4 (tx F s.p))=true:=by rw[hw,hnm];rfl
  have hg1:=(fW (F:=F) (k:=7) hlt).1;have hB1:=hB.gd hg1;have hq1:=aA hq hg1.p;go_enter Tryz.func254,Tryz.ntmps254;go_wp2_with fail;obtain⟨S0,hS0⟩:∃S0:World→Prop,S0=fun w'=>Below W.heap.size W w':=⟨_,rfl⟩
  refine wp_region_held (S:=S0) hmix ?_;show wpAnyH _ _ _ _ _ _ _ _ W.drew;have hS1:S0 W.drew:=by rw[hS0];exact(aC _ W).drew
  have tc:∀(w':World),S0 w'→∀(a:Addr) (v:Value),W.cell? a=some v→w'.cell? a=some v:=fun w' h a v hc=>DT (by rw[hS0] at h;exact h) hc
  refine tk 0 (.pointer (some ⟨g,0,none⟩)) hS1 (fun w' hS=>?_) ?_
  ·go_simp
  try simp only[Act.put,am,ai,aj,ae,an,ar]
  refine wpAnyH_all (rs:=[1]) (by decide +kernel) (by simp) (o8 rfl (by rfl) (fun K2 hK2=>?_) (o9 (S:=S0)));go_simp;go_at_call 261;refine(HW.out _ (H0.out.m.next (aC _ W).drew).1).mono ?_;rintro e w1 ⟨rfl,hz⟩;have HB:=aa ((aC _ W).drew.trans hz);clear hz;have hS2:S0 w1:=by rw[hS0];exact HB.out
  refine hK2 _ _ hS2 ?_;clear hK2 K2;try simp only[Act.put,am,ai,aj,ae,an,ar]
  refine tk 2 (.bool true) hS2 (fun w' hS=>?_) ?_
  ·go_simp
  try simp only[Act.put,am,ai,aj,ae,an,ar]
  refine tk 3 (.pointer (some ⟨g,0,none⟩)) hS2 (fun w' hS=>?_) ?_
  ·go_simp
  try simp only[Act.put,am,ai,aj,ae,an,ar]
  refine tk 4 (.pointer (some ⟨g,0,none⟩)) hS2 (fun w' hS=>?_) ?_
  ·go_simp
  try simp only[Act.put,am,ai,aj,ae,an,ar]
  refine tk 5 (.pointer (some ⟨g,0,none⟩)) hS2 (fun w' hS=>?_) ?_
  ·go_simp
  try simp only[Act.put,am,ai,aj,ae,an,ar]
  refine tk 6 (.slice (some ⟨g1,o1,none⟩) F.length c) hS2 (fun w' hS=>?_) ?_
  ·have c0:=tc w' hS _ _ y0;go_simp
  try simp only[Act.put,am,ai,aj,ae,an,ar]
  refine tk 7 (.pointer (some ⟨g,0,none⟩)) hS2 (fun w' hS=>?_) ?_
  ·go_simp
  try simp only[Act.put,am,ai,aj,ae,an,ar]
  refine tk 8 (.pointer (some ⟨g,0,none⟩)) hS2 (fun w' hS=>?_) ?_
  ·go_simp
  try simp only[Act.put,am,ai,aj,ae,an,ar]
  refine tk 9 (.pointer (some ⟨g,1,none⟩)) hS2 (fun w' hS=>?_) ?_
  ·go_simp
  try simp only[Act.put,am,ai,aj,ae,an,ar]
  refine tk 10 (.int .i64 (s.p:Int)) hS2 (fun w' hS=>?_) ?_
  ·have c0:=tc w' hS _ _ y1;go_simp
  try simp only[Act.put,am,ai,aj,ae,an,ar]
  refine tk 11 (.pointer (some ⟨g1,o1+s.p*4,none⟩)) hS2 (fun w' hS=>?_) ?_
  ·go_simp
  try simp only[Act.put,am,ai,aj,ae,an,ar]
  refine tk 12 (.pointer (some ⟨g1,o1+s.p*4+1,none⟩)) hS2 (fun w' hS=>?_) ?_
  ·go_simp
  try simp only[Act.put,am,ai,aj,ae,an,ar]
  refine tk 13 (.string ⟨x.tx.toArray⟩) hS2 (fun w' hS=>?_) ?_
  ·have c0:=tc w' hS _ _ z1;go_simp
  try simp only[Act.put,am,ai,aj,ae,an,ar]
  refine wpAnyH_all (rs:=[14]) (by decide +kernel) (by simp) (o8 rfl (by rfl) (fun K2 hK2=>?_) (o9 (S:=S0)));go_simp;go_at_call 258;refine(HN.out _).mono ?_;rintro e w2 ⟨rfl,rfl⟩;have hS3:S0 w2:=by rw[hS0];exact HB.out
  refine hK2 _ _ hS3 ?_;clear hK2 K2;try simp only[Act.put,am,ai,aj,ae,an,ar]
  refine tk 15 (.bool true) hS3 (fun w' hS=>?_) ?_
  ·go_simp
  try simp only[Act.put,am,ai,aj,ae,an,ar]
  refine wpAnyH_done (by decide +kernel) ?_ _;have E0:=aa (H0.out.next HB.out);clear hS0 hS1 hS2 tc hS3
  cases ha:dQ F [59] (ez 7 s)
  ·have hg3:=dY (F:=F) hB1.p;have hB3:=hB1.gd hg3;have hq3:=aA hq1 hg3.p
   cases hk:dQ F [107] (dK F (ez 7 s))
   ·have AC1:=aa (fun W1 (h1:Mk g fv F (s) W1)=>lR hF h1 (hB.mono (by omega)) hlt);have AC2:=aa (fun W1 (h1:Mk g fv F (ez 7 s) W1)=>fA hF h1 hB1.p [59] (by decide) ha);have AC3:=aa (fun W1 (h1:Mk g fv F (ez 7 s) W1)=>fM hF h1 hB1.p);have AC4:=aa (fun W1 (h1:Mk g fv F (dK F (ez 7 s)) W1)=>fA hF h1 hB3.p [107] (by decide) hk);have AC5:=aa (fun W1 (h1:Mk g fv F (dK F (ez 7 s)) W1)=>iY hF hL HL h1 hq3 (hB3.mono (by omega)))
    go_wp2_with (first
      | (go_at_call 103;with_reducible refine(AC1.out _ E0.out.m).mono (Mz.k E0 fun aw1 A1=>?_))
      | (go_at_call 100;with_reducible refine(AC2.out _ A1.out.m).mono (Mz.k A1 fun aw2 A2=>?_))
      | (go_at_call 138;with_reducible refine(AC3.out _ A2.out.m).mono (Mz.k A2 fun aw3 A3=>?_))
      | (go_at_call 100;with_reducible refine(AC4.out _ A3.out.m).mono (Mz.k A3 fun aw4 A4=>?_))
      | (go_at_call 266;with_reducible refine(AC5.out _ A4.out.m).mono (Mz.k A4 fun aw5 A5=>?_))
      | fail)
    first|go_end0|refine bn ?_
    refine⟨rfl,?_⟩;rw[HT.out];unfold gF;simp only[hcond,bQ];rw[aB (by rw[ha];decide),aB (by rw[hk];decide)];exact A5.out
   ·have hlt3:=eh hk (by decide);have hn4:=hB3.next hlt3 (by omega);have hq4:q≤(dM (dK F (ez 7 s))).p:=aA hq3 (cg _);have AC1:=aa (fun W1 (h1:Mk g fv F (s) W1)=>lR hF h1 (hB.mono (by omega)) hlt);have AC2:=aa (fun W1 (h1:Mk g fv F (ez 7 s) W1)=>fA hF h1 hB1.p [59] (by decide) ha);have AC3:=aa (fun W1 (h1:Mk g fv F (ez 7 s) W1)=>fM hF h1 hB1.p);have AC4:=aa (fun W1 (h1:Mk g fv F (dK F (ez 7 s)) W1)=>fV hF h1 hB3.p [107] (by decide) hk)
    go_wp2_with (first
      | (go_at_call 103;with_reducible refine(AC1.out _ E0.out.m).mono (Mz.k E0 fun aw1 A1=>?_))
      | (go_at_call 100;with_reducible refine(AC2.out _ A1.out.m).mono (Mz.k A1 fun aw2 A2=>?_))
      | (go_at_call 138;with_reducible refine(AC3.out _ A2.out.m).mono (Mz.k A2 fun aw3 A3=>?_))
      | (go_at_call 100;with_reducible refine(AC4.out _ A3.out.m).mono (Mz.k A3 fun aw4 A4=>?_))
      | fail)
    go_loopw [] (fun wr=>∃u:Ps,q≤u.p∧Bd F 0 u∧(eO F.length (fun s=>if iM F s.p=true then (ez 7 s,true) else (s,false))) u=(eO F.length (fun s=>if iM F s.p=true then (ez 7 s,true) else (s,false))) (dM (dK F (ez 7 s)))∧Mz g fv F W u wr) (fun wr=>F.length-pOf g wr)
    case atStart=>exact⟨_,hq4,hn4,rfl,A4.out⟩
    case round=>
      obtain⟨u,hqu,hBu,hlu,hz⟩:=hrel;have U0:=aa hz;have HU:=aa hlu;have hup:=hz.m.pOf;have HP:=aa hup;clear hz hlu hup
      cases hb:iM F u.p
      ·have HE:=aa (HU.out.symm.trans (LC.stepn iO hBu.p (t:=u) (by show (if _ then _ else _)=_;rw[aB (by rw[hb];decide)])))
       cases hs9:dQ F [59] u
       ·have hg7:=dY (F:=F) hBu.p;have hB7:=hBu.gd hg7;have hq7:=aA hqu hg7.p
        cases hy9:dQ F [110] u
        ·have hg8:=ig (F:=F) hB7.p;have hB8:=hB7.gd hg8;have hq8:=aA hq7 hg8.p;have e9:=aa (qE hBu.p hy9);have NC1:=aa (fun W1 (h1:Mk g fv F (u) W1)=>gk hF h1 hBu.p hb);have NC2:=aa (fun W1 (h1:Mk g fv F (u) W1)=>fA hF h1 hBu.p [59] (by decide) hs9);have NC3:=aa (fun W1 (h1:Mk g fv F (u) W1)=>lq hF h1 hBu.p hy9);have NC4:=aa (fun W1 (h1:Mk g fv F (dK F u) W1)=>fT hF h1 (hB7.mono (by omega)));have NC5:=aa (fun W1 (h1:Mk g fv F (eS (dK F u)) W1)=>iY hF hL HL h1 hq8 (hB8.mono (by omega)))
         go_wp2_with (first
           | (go_at_call 261;with_reducible refine(NC1.out _ U0.out.m).mono (Mz.k U0 fun nw1 N1=>?_))
           | (go_at_call 100;with_reducible refine(NC2.out _ N1.out.m).mono (Mz.k N1 fun nw2 N2=>?_))
           | (go_at_call 138;with_reducible refine(NC3.out _ N2.out.m).mono (Mz.k N2 fun nw3 N3=>?_))
           | (go_at_call 204;with_reducible refine(NC4.out _ N3.out.m).mono (Mz.k N3 fun nw4 N4=>?_))
           | (go_at_call 266;with_reducible refine(NC5.out _ N4.out.m).mono (Mz.k N4 fun nw5 N5=>?_))
           | fail)
         first|go_end0|refine bn ?_
         refine⟨rfl,?_⟩;rw[HT.out];unfold gF;simp only[hcond,bQ];rw[aB (by rw[ha];decide),aD hk];unfold za jA;simp only;rw[HE.out];rw[aB (by rw[hs9];decide),aB (by rw[hy9];decide)];rw[←show eS (dK F u)=eS u by rw[e9.out]];exact N5.out
        ·have NC1:=aa (fun W1 (h1:Mk g fv F (u) W1)=>gk hF h1 hBu.p hb);have NC2:=aa (fun W1 (h1:Mk g fv F (u) W1)=>fA hF h1 hBu.p [59] (by decide) hs9);have NC3:=aa (fun W1 (h1:Mk g fv F (u) W1)=>jZ hF h1 hBu.p hy9);have NC4:=aa (fun W1 (h1:Mk g fv F (dK F u) W1)=>iY hF hL HL h1 hq7 (hB7.mono (by omega)))
         go_wp2_with (first
           | (go_at_call 261;with_reducible refine(NC1.out _ U0.out.m).mono (Mz.k U0 fun nw1 N1=>?_))
           | (go_at_call 100;with_reducible refine(NC2.out _ N1.out.m).mono (Mz.k N1 fun nw2 N2=>?_))
           | (go_at_call 138;with_reducible refine(NC3.out _ N2.out.m).mono (Mz.k N2 fun nw3 N3=>?_))
           | (go_at_call 266;with_reducible refine(NC4.out _ N3.out.m).mono (Mz.k N3 fun nw4 N4=>?_))
           | fail)
         first|go_end0|refine bn ?_
         refine⟨rfl,?_⟩;rw[HT.out];unfold gF;simp only[hcond,bQ];rw[aB (by rw[ha];decide),aD hk];unfold za jA;simp only;rw[HE.out];rw[aB (by rw[hs9];decide),aD hy9];exact N4.out
       ·have hlt5:=eh hs9 (by decide);have hn6:=hBu.next hlt5 (by omega);have hg7:=dY (F:=F) hn6.p;have hB7:=hn6.gd hg7;have hq7:q≤(dK F (dM u)).p:=aA hqu (aA (cg _) hg7.p)
        cases hy9:dQ F [110] (dM u);have NC1:=aa (fun W1 (h1:Mk g fv F (u) W1)=>gk hF h1 hBu.p hb);have NC2:=aa (fun W1 (h1:Mk g fv F (u) W1)=>fV hF h1 hBu.p [59] (by decide) hs9);have NC3:=aa (fun W1 (h1:Mk g fv F (dM u) W1)=>lq hF h1 hn6.p hy9)
        rotate_left
        have NC1:=aa (fun W1 (h1:Mk g fv F (u) W1)=>gk hF h1 hBu.p hb);have NC2:=aa (fun W1 (h1:Mk g fv F (u) W1)=>fV hF h1 hBu.p [59] (by decide) hs9);have NC3:=aa (fun W1 (h1:Mk g fv F (dM u) W1)=>jZ hF h1 hn6.p hy9)
        rotate_left
        all_goals (
          have NC4:=aa (fun W1 (h1:Mk g fv F (dK F (dM u)) W1)=>iY hF hL HL h1 hq7 (hB7.mono (by omega)))
          go_wp2_with (first
            | (go_at_call 261;with_reducible refine(NC1.out _ U0.out.m).mono (Mz.k U0 fun nw1 N1=>?_))
            | (go_at_call 100;with_reducible refine(NC2.out _ N1.out.m).mono (Mz.k N1 fun nw2 N2=>?_))
            | (go_at_call 138;with_reducible refine(NC3.out _ N2.out.m).mono (Mz.k N2 fun nw3 N3=>?_))
            | (go_at_call 266;with_reducible refine(NC4.out _ N3.out.m).mono (Mz.k N3 fun nw4 N4=>?_))
            | fail)
          first|go_end0|refine bn ?_
          refine⟨rfl,?_⟩;rw[HT.out];unfold gF;simp only[hcond,bQ];rw[aB (by rw[ha];decide),aD hk];unfold za jA;simp only;rw[HE.out];rw[aD hs9];exact N4.out)
      ·have hlu2:=fR hb;have hy:=LC.y (iO u hBu.p) (t:=ez 7 u) (by show (if _ then _ else _)=_;rw[aD hb]);have HE:=aa ((LC.stepy iO hBu.p (t:=ez 7 u) (by show (if _ then _ else _)=_;rw[aD hb])).symm.trans HU.out);have YC1:=aa (fun W1 (h1:Mk g fv F (u) W1)=>iR hF h1 hBu.p hb);have YC2:=aa (fun W1 (h1:Mk g fv F (u) W1)=>lR hF h1 (hBu.mono (by omega)) hlu2)
       go_wp2_with (first
         | (go_at_call 261;with_reducible refine(YC1.out _ U0.out.m).mono (Mz.k U0 fun yw1 Y1=>?_))
         | (go_at_call 103;with_reducible refine(YC2.out _ Y1.out.m).mono (Mz.k Y1 fun yw2 Y2=>?_))
         | fail)
       refine⟨⟨_,aA hqu (bq hy.2),hBu.gd hy.1,HE.out,Y2.out⟩,?_⟩;rw[Y2.out.m.pOf,HP.out]
       have:=hy.2
       have:=hy.1.N
       omega
  ·have hlt2:=eh ha (by decide);have hn2:=hB1.next hlt2 (by omega);have hg3:=dY (F:=F) hn2.p;have hB3:=hn2.gd hg3;have hq3:q≤(dK F (dM (ez 7 s))).p:=aA hq1 (aA (cg _) hg3.p);have AC1:=aa (fun W1 (h1:Mk g fv F (s) W1)=>lR hF h1 (hB.mono (by omega)) hlt);have AC2:=aa (fun W1 (h1:Mk g fv F (ez 7 s) W1)=>fV hF h1 hB1.p [59] (by decide) ha);have AC3:=aa (fun W1 (h1:Mk g fv F (dM (ez 7 s)) W1)=>fM hF h1 hn2.p);have AC4:=aa (fun W1 (h1:Mk g fv F (dK F (dM (ez 7 s))) W1)=>iY hF hL HL h1 hq3 (hB3.mono (by omega)))
   go_wp2_with (first
     | (go_at_call 103;with_reducible refine(AC1.out _ E0.out.m).mono (Mz.k E0 fun aw1 A1=>?_))
     | (go_at_call 100;with_reducible refine(AC2.out _ A1.out.m).mono (Mz.k A1 fun aw2 A2=>?_))
     | (go_at_call 138;with_reducible refine(AC3.out _ A2.out.m).mono (Mz.k A2 fun aw3 A3=>?_))
     | (go_at_call 266;with_reducible refine(AC4.out _ A3.out.m).mono (Mz.k A3 fun aw4 A4=>?_))
     | fail)
   first|go_end0|refine bn ?_
   refine⟨rfl,?_⟩;rw[HT.out];unfold gF;simp only[hcond,bQ];rw[aD ha];exact A4.out
end Go.Proofs.YtcagfamdoaoimaaGreatDoor
