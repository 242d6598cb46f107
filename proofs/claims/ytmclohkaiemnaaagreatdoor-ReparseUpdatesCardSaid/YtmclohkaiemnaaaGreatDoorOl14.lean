/- Reparse: older: what is taken over at a leaf. -/
import Derived.Test.YtmclohkaiemnaaaGreatDoorUm14
import Derived.Test.YtmclohkaiemnaaaGreatDoorOd14
import Derived.Test.YtmclohkaiemnaaaGreatDoorSt13
import Derived.Test.YtmclohkaiemnaaaGreatDoorTo29
import Derived.Test.YtmclohkaiemnaaaGreatDoorPm13
import Derived.BigQuiet
set_option linter.unusedVariables false
set_option linter.unusedSimpArgs false
set_option maxRecDepth 100000
set_option maxHeartbeats 8000000
namespace Go.Proofs.YtmclohkaiemnaaaGreatDoor
section
open Go.RowKit
def ly (C:Uc) (p:Nat):Option (Nat×Int):=
  if 0<C.f (p:Int)∧(((C.L[(C.f (p:Int)).toNat]?).map Nd.tt).getD 0:Nat)+2≤C.hd then some ((C.f (p:Int)).toNat,0)
  else if p+C.tl<C.F.length then none
  else if 0<C.f ((p:Int)-C.mo) then some ((C.f ((p:Int)-C.mo)).toNat,C.mo) else none
structure Ub (C:Uc):Prop where
  F:C.F.length≤900
  L:C.L.length≤90000
  mo : -900≤C.mo∧C.mo≤900
  hd:C.hd≤900
  tl:C.tl≤900
  up:∀x∈C.L, -1≤x.up∧x.up≤100000
  tto:∀x∈C.L,x.tt≤100000
  f:∀x:Int,0<C.f x→C.f x<(C.L.length:Int)
def OC (S:List Nd) (z:Int) (B:Nat) (e:Ending) (w:World):Prop:=∃v,e=.returned (.tuple #[v,.int .i64 z,.bool true])∧w.ownsRow B 52 4 v S.length (fm S)
theorem C1 {g:Nat} {C:Uc} {r:List Nd} {p kp i:Nat} {z:Int} {S:List Nd} {lv:Value} {W:World} (B:Ub C) (h:Ul g C r p kp lv W) (hp:p≤C.F.length) (ho:ly C p=some (i,z)) (hS:rT C.L S i) :
    Calls Tryz.prog 63 #[.pointer (some ⟨g,0,none⟩)] W fun e w'=>OC S z W.heap.size e w'∧Below W.heap.size W w':=by
  obtain⟨b1,b2,b3,b4,b5,b6,b7,b8⟩:=B;obtain⟨c0,c1,c2,c3,c4,c5,_,c7,_⟩:=h.cells;have hor:=h.o;have hfr:=h.f;have gl:=h.w.lt;have lk1:=fun n=>(h.m.drewN n).look (x:=(p:Int)) (by omega) (by omega)
  have lk2:=fun n=>(h.m.drewN n).look (x:=(p:Int)-C.mo) (by omega) (by omega)
  have k1:=b8 (p:Int);have k2:=b8 ((p:Int)-C.mo);have csub:=fun (i:Nat) (hS:rT C.L S i) (W2:World) (hb:Below W.heap.size W W2) (A:Option Addr) (c:Nat) (e:C.ov=.slice A C.L.length c)=>Nb C.L S i c A W2 b2 hS b6 (by rw[←e];exact(hor.keep (hb.mono (aM gl)) (au _)).mono (by have:=hb.size;omega))
  unfold ly at ho;obtain⟨f1,hf1⟩:∃f1,f1=C.f (p:Int):=⟨_,rfl⟩;obtain⟨f2,hf2⟩:∃f2,f2=C.f ((p:Int)-C.mo):=⟨_,rfl⟩;rw[←hf1] at ho lk1 k1;rw[←hf2] at ho lk2 k2;have w1:IntKind.i64.wrap ((C.hd:Int)-2)=(C.hd:Int)-2:=aO _ (by omega);have w2:IntKind.i64.wrap ((C.F.length:Int)-(C.tl:Int))=(C.F.length:Int)-(C.tl:Int):=aO _ (by omega);have w3:IntKind.i64.wrap ((p:Int)-C.mo)=(p:Int)-C.mo:=aO _ (by omega);obtain⟨ga,ca,hov⟩:∃A c,C.ov=.slice A C.L.length c:=hor.formm;obtain⟨gn,cn,hnv⟩:∃A c,C.nv=.slice A C.F.length c:=hfr.formm;have hrd:∀j:Nat,j<C.L.length→∃g o x,ga=some ⟨g,o,none⟩∧C.L[j]? = some x∧W.cell? ⟨g,o+j*4+2,none⟩=some (.int .i64 (x.tt:Int)):=fun j hj=>by
    obtain⟨x,hx⟩:∃x,C.L[j]? = some x:=⟨_,ax hj⟩;rw[hov] at hor;obtain⟨g,o,e,_,hc⟩:=fW gu hor hx rfl;exact⟨g,o,x,e,hx,hc 2 _ rfl⟩
  rw[hov] at c1;rw[hnv] at c0;have HS:=ac (ae csub (ae hov hS));clear csub hor hfr b2 b6 b7 b8 hf1 hf2 hS hov hnv h;generalize C.L.length=lenL at *;generalize C.F.length=lenF at *;by_cases hA:0<f1∧(((C.L[f1.toNat]?).map Nd.tt).getD 0:Nat)+2≤C.hd
  ·rw[aB hA] at ho;simp only[dh,dy] at ho;obtain⟨ho1,rfl⟩:=ho;obtain⟨j,rfl⟩:∃j:Nat,f1=(j:Int):=⟨f1.toNat,by omega⟩;rw[bJ] at ho1 hA;subst ho1;obtain⟨g0,o0,x,rfl,hx,xt2⟩:=hrd j (by have:=k1 hA.1;omega);rw[hx] at hA;have hA2:x.tt+2≤C.hd:=hA.2;have t1:(0:Int)<(j:Int):=hA.1;have t1b:0<j:=by omega
   obtain⟨xt,hxt⟩:∃xt:Int,xt=(x.tt:Int):=⟨_,rfl⟩;rw[←hxt] at xt2;have t2:decide (xt≤(C.hd:Int)-2)=true:=aG (by omega);have u1:(j:Int)<(lenL:Int):=by have:=k1 hA.1;omega
   have u2:(0:Int)≤(j:Int):=by omega
   clear lk2 k1 k2 hrd hA hA2 hx hxt;go_enter Tryz.func63,Tryz.ntmps63;go_wp2_with fail;go_quiet (fail);go_wp2_with fail;go_quiet (fail);go_wp2_with (
     (go_at_call 85;with_reducible refine(HS.out.1 _ HS.out.2.2 _ (dX (ay _ W) _) _ _ HS.out.2.1).mono ?_
      rintro e w2 ⟨v,rfl,hown,hb⟩;have H2:=ac (ae hown ((dX (ay _ W) _).trans hb));clear hown hb))
   refine bu (v:=.tuple #[v,.int .i64 0,.bool true]) (by simp[results,Tryz.results63,go_sem]) rfl ?_;exact⟨⟨_,rfl,H2.out.1⟩,H2.out.2⟩
  rw[aC hA] at ho;have key:(f1≤0)∨(∃(j g0 o0:Nat) (xt:Int),f1=(j:Int)∧0<j∧(j:Int)<(lenL:Int)∧ga=some ⟨g0,o0,none⟩∧W.cell? ⟨g0,o0+j*4+2,none⟩=some (.int .i64 xt)∧¬xt≤(C.hd:Int)-2):=by
    by_cases h0:0<f1
    ·obtain⟨j,rfl⟩:∃j:Nat,f1=(j:Int):=⟨f1.toNat,by omega⟩;obtain⟨g0,o0,x,e1,hx,e2⟩:=hrd j (by have:=k1 h0;omega);refine .inr ⟨j,g0,o0,(x.tt:Int),rfl,by omega,k1 h0,e1,e2,fun h1=>hA ⟨h0,?_⟩⟩;rw[bJ,hx];show x.tt+2≤C.hd;omega
    ·exact .inl (by omega)
  by_cases hB:p+C.tl<lenF
  ·rw[aB hB] at ho;cases ho
  rw[aC hB] at ho;by_cases hD:0<f2
  ·rw[aB hD] at ho;simp only[dh,dy] at ho;obtain⟨ho1,rfl⟩:=ho;obtain⟨j2,rfl⟩:∃j:Nat,f2=(j:Int):=⟨f2.toNat,by omega⟩;rw[bJ] at ho1;subst ho1;have t3:decide ((p:Int)<(lenF:Int)-(C.tl:Int))=false:=aE (by omega);have t4:(0:Int)<(j2:Int):=hD;clear k1 k2 hrd hA hB hD;rcases key with h0|⟨j,g0,o0,xt,rfl,j0,j1,rfl,xt2,h0⟩
   case' inl=>
     have t1:decide (0<f1)=false:=aE (by omega);clear h0
   case' inr=>
     have t1:(0:Int)<(j:Int):=by omega
     have t2:decide (xt≤(C.hd:Int)-2)=false:=aE h0;have u2:(0:Int)≤(j:Int):=by omega
     clear h0
   all_goals (
     go_enter Tryz.func63,Tryz.ntmps63;go_wp2_with fail;go_quiet (fail);go_wp2_with fail;go_quiet (fail);go_wp2_with fail;go_quiet (fail);go_wp2_with fail;go_quiet (fail);go_wp2_with fail)
   ·clear lk1 lk2 c0 c3 c4 c5 c7
    go_region_held3 (fun w'=>w'.cell? ⟨g,1,none⟩=some (.slice (some ⟨g0,o0,none⟩) lenL ca)∧w'.cell? ⟨g,2,none⟩=some (.int .i64 C.mo))
     (first|with_reducible exact⟨c1,c2⟩|exact⟨c1,c2⟩)
     (
      (go_at_call 85;with_reducible refine(HS.out.1 _ HS.out.2.2 _ (dX (ay _ W) _) _ _ HS.out.2.1).mono ?_
       rintro e w2 ⟨v,rfl,hown,hb⟩;have H2:=ac (ae hown ((dX (ay _ W) _).trans hb));have c1:=jc hb c1;have c2:=jc hb c2;clear hown hb))
    go_wp2_with fail;refine bu (v:=.tuple #[v,.int .i64 C.mo,.bool true]) (by simp[results,Tryz.results63,go_sem]) rfl ?_;exact⟨⟨_,rfl,H2.out.1⟩,H2.out.2⟩
   ·clear lk1 lk2 c0 c3 c4 c5 c7
    go_region_held3 (fun w'=>w'.cell? ⟨g,1,none⟩=some (.slice ga lenL ca)∧w'.cell? ⟨g,2,none⟩=some (.int .i64 C.mo))
     (first|with_reducible exact⟨c1,c2⟩|exact⟨c1,c2⟩)
     (
      (go_at_call 85;with_reducible refine(HS.out.1 _ HS.out.2.2 _ (dX (ay _ W) _) _ _ HS.out.2.1).mono ?_
       rintro e w2 ⟨v,rfl,hown,hb⟩;have H2:=ac (ae hown ((dX (ay _ W) _).trans hb));have c1:=jc hb c1;have c2:=jc hb c2;clear hown hb))
    go_wp2_with fail;refine bu (v:=.tuple #[v,.int .i64 C.mo,.bool true]) (by simp[results,Tryz.results63,go_sem]) rfl ?_;exact⟨⟨_,rfl,H2.out.1⟩,H2.out.2⟩
  ·rw[aC hD] at ho;cases ho
theorem Fp {g:Nat} {C:Uc} {r:List Nd} {p kp:Nat} {lv:Value} {W:World} (B:Ub C) (h:Ul g C r p kp lv W) (hp:p≤C.F.length) (ho:ly C p=none) :
    jJ 63 #[.pointer (some ⟨g,0,none⟩)] W (.tuple #[.slice none 0 0,.int .i64 0,.bool false]):=by
  obtain⟨b1,b2,b3,b4,b5,b6,b7,b8⟩:=B;obtain⟨c0,c1,c2,c3,c4,c5,_,c7,_⟩:=h.cells;have hor:=h.o;have hfr:=h.f;have gl:=h.w.lt;have lk1:=fun n=>(h.m.drewN n).look (x:=(p:Int)) (by omega) (by omega)
  have lk2:=fun n=>(h.m.drewN n).look (x:=(p:Int)-C.mo) (by omega) (by omega)
  have k1:=b8 (p:Int);have k2:=b8 ((p:Int)-C.mo);unfold ly at ho;obtain⟨f1,hf1⟩:∃f1,f1=C.f (p:Int):=⟨_,rfl⟩;obtain⟨f2,hf2⟩:∃f2,f2=C.f ((p:Int)-C.mo):=⟨_,rfl⟩;rw[←hf1] at ho lk1 k1;rw[←hf2] at ho lk2 k2;have w1:IntKind.i64.wrap ((C.hd:Int)-2)=(C.hd:Int)-2:=aO _ (by omega);have w2:IntKind.i64.wrap ((C.F.length:Int)-(C.tl:Int))=(C.F.length:Int)-(C.tl:Int):=aO _ (by omega);have w3:IntKind.i64.wrap ((p:Int)-C.mo)=(p:Int)-C.mo:=aO _ (by omega);obtain⟨ga,ca,hov⟩:∃A c,C.ov=.slice A C.L.length c:=hor.formm;obtain⟨gn,cn,hnv⟩:∃A c,C.nv=.slice A C.F.length c:=hfr.formm;have hrd:∀j:Nat,j<C.L.length→∃g o x,ga=some ⟨g,o,none⟩∧C.L[j]? = some x∧W.cell? ⟨g,o+j*4+2,none⟩=some (.int .i64 (x.tt:Int)):=fun j hj=>by
    obtain⟨x,hx⟩:∃x,C.L[j]? = some x:=⟨_,ax hj⟩;rw[hov] at hor;obtain⟨g,o,e,_,hc⟩:=fW gu hor hx rfl;exact⟨g,o,x,e,hx,hc 2 _ rfl⟩
  rw[hov] at c1;rw[hnv] at c0;clear hor hfr b2 b6 b7 b8 hf1 hf2 hov hnv h;generalize C.L.length=lenL at *;generalize C.F.length=lenF at *;have hA:¬(0<f1∧(((C.L[f1.toNat]?).map Nd.tt).getD 0:Nat)+2≤C.hd):=fun hA=>by rw[aB hA] at ho;cases ho
  rw[aC hA] at ho;have key:(f1≤0)∨(∃(j g0 o0:Nat) (xt:Int),f1=(j:Int)∧0<j∧(j:Int)<(lenL:Int)∧ga=some ⟨g0,o0,none⟩∧W.cell? ⟨g0,o0+j*4+2,none⟩=some (.int .i64 xt)∧¬xt≤(C.hd:Int)-2):=by
    by_cases h0:0<f1
    ·obtain⟨j,rfl⟩:∃j:Nat,f1=(j:Int):=⟨f1.toNat,by omega⟩;obtain⟨g0,o0,x,e1,hx,e2⟩:=hrd j (by have:=k1 h0;omega);refine .inr ⟨j,g0,o0,(x.tt:Int),rfl,by omega,k1 h0,e1,e2,fun h1=>hA ⟨h0,?_⟩⟩;rw[bJ,hx];show x.tt+2≤C.hd;omega
    ·exact .inl (by omega)
  by_cases hB:p+C.tl<lenF
  ·have t3:(p:Int)<(lenF:Int)-(C.tl:Int):=by omega
   clear k1 k2 hrd hA hB lk2 ho;rcases key with h0|⟨j,g0,o0,xt,rfl,j0,j1,rfl,xt2,h0⟩
   case' inl=>
     have t1:decide (0<f1)=false:=aE (by omega);clear h0
   case' inr=>
     have t1:(0:Int)<(j:Int):=by omega
     have t2:decide (xt≤(C.hd:Int)-2)=false:=aE h0;have u2:(0:Int)≤(j:Int):=by omega
     clear h0
   all_goals (
     go_enter Tryz.func63,Tryz.ntmps63;go_wp2_with fail;go_quiet (fail);go_wp2_with fail;go_quiet (fail);go_wp2_with fail;go_quiet (fail);go_wp2_with fail;refine bu (v:=.tuple #[.slice none 0 0,.int .i64 0,.bool false]) (by simp[results,Tryz.results63,go_sem]) rfl ?_
     first
       | exact⟨rfl,dX (ay _ W) _⟩
       | exact⟨rfl,dX (dX (dX (ay _ W) _) _) _⟩
       | exact⟨rfl,dX (dX (dX (dX (ay _ W) _) _) _) _⟩)
  ·rw[aC hB] at ho;have hD:¬0<f2:=fun hD=>by rw[aB hD] at ho;cases ho
   have t3:decide ((p:Int)<(lenF:Int)-(C.tl:Int))=false:=aE (by omega);have t4:decide (0<f2)=false:=aE hD;clear k1 k2 hrd hA hB hD ho;rcases key with h0|⟨j,g0,o0,xt,rfl,j0,j1,rfl,xt2,h0⟩
   case' inl=>
     have t1:decide (0<f1)=false:=aE (by omega);clear h0
   case' inr=>
     have t1:(0:Int)<(j:Int):=by omega
     have t2:decide (xt≤(C.hd:Int)-2)=false:=aE h0;have u2:(0:Int)≤(j:Int):=by omega
     clear h0
   all_goals (
     go_enter Tryz.func63,Tryz.ntmps63;go_wp2_with fail;go_quiet (fail);go_wp2_with fail;go_quiet (fail);go_wp2_with fail;go_quiet (fail);go_wp2_with fail;go_quiet (fail);go_wp2_with fail;refine bu (v:=.tuple #[.slice none 0 0,.int .i64 0,.bool false]) (by simp[results,Tryz.results63,go_sem]) rfl ?_
     first
       | exact⟨rfl,dX (ay _ W) _⟩
       | exact⟨rfl,dX (dX (dX (ay _ W) _) _) _⟩
       | exact⟨rfl,dX (dX (dX (dX (ay _ W) _) _) _) _⟩)
structure Uk (C:Uc) (G:List Lf):Prop where
  hfF:FB C.F
  hfG:FB G
  L:C.L=(ei G).l
  f:C.f=xq (ei G).l (jt (ei G).l (ei G).l.length)
  mo:C.mo=(C.F.length:Int)-(G.length:Int)
  hd:C.hd=mT G C.F
  tl:C.tl=zE (G.drop C.hd) (C.F.drop C.hd)
theorem LK {L:List Nd} {n:Nat} (h:qN L) (h0:L[0]? = some ⟨1,0,n, -1⟩):∀(i:Nat) (x:Nd),L[i]? = some x→x.tt≤n∧x.fr≤n∧x.up<(i:Int) ∧ -1≤x.up:=by
  intro i
  induction i using Nat.strongRecOn with
  | _ i ih=>
    intro x hx;have hn:=h i x hx;rcases Nat.eq_zero_or_pos i with h1|h1
    ·subst h1;rw[h0] at hx
     cases hx;exact⟨au _,bq _,by show (-1:Int)<_;omega,Int.le_refl _⟩
    ·obtain⟨u,m,e1,e2,_,e3,_,e4,_⟩:=hn.u h1
     have:=ih u e2 m e3
     have:=hn.le
     exact⟨by omega,by omega,by omega,by omega⟩
theorem ow (G:List Lf):(ei G).l.length≤16*G.length+5:=by
  have h:=(tR G).1;have h1:=h.b;have h2:=(tR G).2;have e:(gO 0).l.length=0:=rfl;have e2:(gO 0).p=0:=rfl;omega
theorem pW (G:List Lf):∀(i:Nat) (x:Nd),(ei G).l[i]? = some x→x.tt≤G.length∧x.fr≤G.length∧x.up<(i:Int) ∧ -1≤x.up:=by
  obtain⟨h1,r,h2⟩:=ri G;exact LK h1 (by rw[h2];rfl)
theorem MZ (L:List Nd) (i:Nat):((L[i]?).map Nd.tt).getD 0=wZ L i:=by
  unfold wZ
  cases L[i]? <;> rfl
theorem DG {C:Uc} {G:List Lf} (h:Uk C G) {x:Int} (h0:0<C.f x):∃(i p:Nat),C.f x=(i:Int)∧x=(p:Int)∧i<C.L.length∧vz G C.L i p∧wZ C.L i=(eO G p).p:=by
  rw[h.f] at h0 ⊢;rw[h.L];exact Lr G h0
theorem vz.sub {F:List Lf} {L:List Nd} {i p:Nat} (h:vz F L i p):rT L (eO F p).l i:=⟨h.le,h.pos,h.row,h.nxt⟩
theorem KX {G:List Lf} {S T:List Nd} {z:Int} {i q u b:Nat} (hs:vz G (ei G).l i q) (e:S=(eO G q).l) (h:N7 S T z) (hb:G.length≤900):Oi S (T.map (lN 0 b (u:Int))) z u b:=by
  refine⟨by rw[bE];exact h.1.symm,by rw[e];exact hs.pos,fun j x y hx hy=>?_⟩;rw[aV] at hy;obtain⟨t,ht,rfl⟩:=Option.map_eq_some_iff.1 hy;obtain⟨h1,h2,h3,h4⟩:=h.2 j x t hx ht;rw[e] at hx;obtain⟨y,e1,_,e3,e4,e5,e6⟩:=hs.row j x hx;have hy:=pW G _ y e1;have hl:=ow G;have hil:=(az.1 e1).1;refine⟨h1,h2,h3,fun hj=>?_,fun hj=>?_,by omega,by omega,?_,?_⟩
  ·show pL b u t.up=_;unfold pL;rw[h4,e6 hj,aB (by decide)]
  ·show pL b u t.up=_
   have:=(e5 hj).1
   unfold pL;rw[h4,aC (by omega)]
  ·rcases Nat.eq_zero_or_pos j with hj|hj
   ·have:=e6 hj;omega
   ·have:=e5 hj;omega
  ·rcases Nat.eq_zero_or_pos j with hj|hj
   ·have:=e6 hj;omega
   ·have:=e5 hj;omega
theorem KB {C:Uc} {G:List Lf} (h:Uk C G):Ub C:=by
  have hG:=h.hfG.n;have hF:=h.hfF.n;have hmo:=h.mo;have hl:=ow G;have hhd:C.hd≤G.length∧C.hd≤C.F.length:=by rw[h.hd];exact pC _ _
  have htl:=qU (G.drop C.hd) (C.F.drop C.hd);rw[←h.tl,aZ,aZ] at htl;have hrow:∀x∈C.L,x.tt≤900 ∧ -1≤x.up∧x.up≤100000:=fun x hx=>by
    rw[h.L] at hx;obtain⟨i,hi⟩:=List.getElem?_of_mem hx;have h1:=pW G i x hi;have h2:=(az.1 hi).1;omega
  refine⟨hF,by rw[h.L];omega,by omega,by omega,by omega,fun x hx=>(hrow x hx).2,fun x hx=>by have:=(hrow x hx).1;omega,fun x hx=>?_⟩;obtain⟨i,p,e1,_,e3,_⟩:=DG h hx;omega
theorem L4 {C:Uc} {G:List Lf} (h:Uk C G) {p i:Nat} {z:Int} (hp:p≤C.F.length) (ho:ly C p=some (i,z)):∃S,rT C.L S i∧(-900≤z∧z≤900)∧∀u b:Nat,Oi S ((eO C.F p).l.map (lN 0 b (u:Int))) z u b:=by
  have hG:=h.hfG.n;have hF:=h.hfF.n;have hmo:=h.mo;have hhd:C.hd≤G.length∧C.hd≤C.F.length:=by rw[h.hd];exact pC _ _
  unfold ly at ho;rw[MZ] at ho;split at ho
  ·rename_i hc;obtain⟨i',q,e1,e2,e3,e4,e5⟩:=DG h hc.1;simp only[dh,dy] at ho;obtain⟨ho1,rfl⟩:=ho;have hi:i'=i:=by rw[←ho1,e1];rfl
   subst hi;have hq:q=p:=by omega
   subst hq;rw[ho1] at hc;have hm:=Fs (F:=C.F) (G:=G) (h:=C.hd) (p:=q) (fun j hj=>(AE G C.F j (by rw[←h.hd];exact hj)).symm) hp e4.pl (by have:=hc.2;omega);rw[h.L] at e4;exact⟨_,by rw[h.L];exact e4.sub,⟨by omega,by omega⟩,fun u b=>KX e4 rfl hm.1 hG⟩
  ·split at ho
   ·cases ho
   ·rename_i hc2;split at ho
    ·rename_i hc3;obtain⟨i',q,e1,e2,e3,e4,e5⟩:=DG h hc3;simp only[dh,dy] at ho;obtain⟨ho1,rfl⟩:=ho;have hi:i'=i:=by rw[←ho1,e1];rfl
     subst hi;have htl:=qU (G.drop C.hd) (C.F.drop C.hd);rw[←h.tl,aZ,aZ] at htl;have hT:=Ip G C.F C.hd hhd.1 hhd.2;rw[←h.tl] at hT;have hm:=Fq (F:=C.F) (G:=G) (t:=C.tl) (p:=p) (q:=q) (by omega) (by omega) hT (by omega) (by omega) hp;rw[←h.mo] at hm;rw[h.L] at e4;exact⟨_,by rw[h.L];exact e4.sub,⟨by omega,by omega⟩,fun u b=>KX e4 rfl hm hG⟩
    ·cases ho
theorem yd {w:World} {B e sz n g c k:Nat} {xs:List Value} (h:w.ownsRow B e sz (.slice (some ⟨g,0,none⟩) n c) k xs):w.ownsRow g e sz (.slice (some ⟨g,0,none⟩) n c) k xs:=by
  refine⟨h.1,?_⟩;rcases h.2 with h2|⟨g',cap,cur,he,hg,r⟩
  ·exact .inl h2
  ·cases he;exact .inr ⟨g,c,cur,rfl,au _,r⟩
theorem GT (F:List Lf) {p:Nat} (hp:p≤F.length) (b u:Nat):(((eO F p).l.map (lN 0 b (u:Int))).head?.map Nd.tt).getD 0=(eO F p).p:=by
  obtain⟨m,h1,_⟩:=kI F hp;rw[h1];rfl
theorem wR (F:List Lf) {p:Nat} (hp:p≤F.length):(eO F p).l.length≤16*((eO F p).p-p)+3∧p≤(eO F p).p∧(eO F p).p≤F.length:=by
  have h:=AG F hp;have h1:=h.b;have h2:=h.N;have h3:=h.p;have e:(gO p).l.length=0:=rfl;have e2:(gO p).p=p:=rfl;omega
theorem Fo.rng {b:Nat} {u:Int} {a c:Nat} {l:List Nd} (h:Fo b u a c l):∀x∈l,x.fr≤c∧x.tt≤c:=by
  induction h with
  | nil _=>intro x hx;cases hx
  | @cons b u a c k x y ks r e1 e2 e3 e4 e5 ih1 ih2=>
    intro q hq;have hyc:=e5.le;rcases bj.1 hq with rfl|hq
    ·exact⟨by show x≤c;omega,hyc⟩
    ·rcases bM.1 hq with hq|hq
     ·have:=ih1 q hq;omega
     ·exact ih2 q hq
theorem ME (F:List Lf) {p:Nat} (hp:p≤F.length) (hF:F.length≤900) (u b:Nat):Oi (eO F p).l ((eO F p).l.map (lN 0 b (u:Int))) 0 u b:=by
  obtain⟨m,h1,h2⟩:=kI F hp;have hs:=wR F hp;have hm:(eO F p).l.length=m.length+1:=by rw[h1];rfl
  have hf:∀x∈(eO F p).l,x.fr≤100000∧x.tt≤100000:=fun x hx=>by
    obtain⟨m',e1,e2⟩:=(AG F hp).f;have e1:(eO F p).l=m':=e1;rw[e1] at hx
    have:=e2.rng x hx
    omega
  refine⟨bE _,by omega,fun j x y hx hy=>?_⟩;rw[aV,hx] at hy;have hy:lN 0 b (u:Int) x=y:=by simpa using hy
  rw[←hy];have hxf:=hf x (aI hx);have hjl:=(az.1 hx).1;refine⟨rfl,by show ((x.fr+0:Nat):Int)=_;omega,by show ((x.tt+0:Nat):Int)=_;omega,fun hj=>?_,fun hj=>?_,hxf.1,hxf.2,?_,?_⟩
  ·subst hj;rw[h1] at hx
   have:(⟨3,p,(eO F p).p, -1⟩:Nd)=x:=by simpa using hx
   rw[←this];show pL b u (-1)=_;unfold pL;rw[aB (by decide)]
  ·obtain⟨j,rfl⟩:∃k,j=k+1:=⟨j-1,by omega⟩;rw[h1,cD] at hx
   have:=(h2 x (aI hx)).1
   show pL b u x.up=_;unfold pL;rw[aC (by omega)]
  ·have:=GN hp x (aI hx);omega
  ·rw[h1] at hx;rcases bj.1 (aI hx) with rfl|hx
   ·show (-1:Int)≤_;omega
   ·have:=(h2 x hx).2;omega
theorem zC {g:Nat} {C:Uc} {G:List Lf} {r:List Nd} {p kp:Nat} {W:World} (X:Uk C G) (u:Nat) (h:Um g C r p kp W) (hp:p<C.F.length) (hb:eN C.F (gO p)=true) (hr:r.length≤16*p+2) (hk:kp≤100000) :
    Calls Tryz.prog 40 #[.pointer (some ⟨g,0,none⟩),.int .i64 (u:Int)] W fun e w'=>e=.returned (.tuple #[])∧Um g C (my C.F r u p) (eO C.F p).p (kp+(ly C p).toList.length) w'∧jQ g W w':=by
  obtain⟨lv,h⟩:=h;have hpl:=aM hp;have v8:IntKind.i64.wrap ((kp:Int)+1)=(kp:Int)+1:=aO _ (by omega);have hs:=wR C.F hpl;have hF:=X.hfF.n;have gl:=h.w.lt;have lvk:∀k,lv.ownBlock=some k→k<W.heap.size:=fun k hk=>(h.r.lt k hk).2
  cases ho:ly C p with
  | some a=>
    obtain⟨i,z⟩:=a;obtain⟨S,hS,hz,hH⟩:=L4 X hpl ho;have hSl:S.length=(eO C.F p).l.length:=by have:=(hH 0 0).len;rw[bE] at this;exact this.symm
    have hSp:=(hH 0 0).pos;have c1:=C1 (KB X) h hpl ho hS;have c2:∀(W2:World) (ks cs:Nat),Below W.heap.size W W2→W2.ownsRow W.heap.size 52 4 (.slice (some ⟨ks,0,none⟩) S.length cs) S.length (fm S)→Calls Tryz.prog 64 #[.pointer (some ⟨g,0,none⟩),.int .i64 (u:Int),.slice (some ⟨ks,0,none⟩) S.length cs,.int .i64 z] W2 fun e w'=>e=.returned (.tuple #[])∧Um g C (my C.F r u p) (eO C.F p).p kp w'∧jQ g W2 w':=fun W2 ks cs hb2 hown=>by
      have hk:=(hown.lt ks rfl).1;have hh:=F7 S _ z u ks cs (h.next hb2) (hH u r.length) (by omega) (by omega) (yd hown) (by omega) (fun e=>by have:=lvk ks e;omega);rw[GT C.F hpl] at hh;exact hh
    have HC:=ac (ae c1 (ae c2 hSp));clear c1 c2 hS hH hz lvk h hb ho hSl hs hr hSp;go_enter Tryz.func40,Tryz.ntmps40
    go_wp2_with (first
      | (go_at_call 64;with_reducible refine(HC.out.2.1 _ _ _ H1.out.2 H1.out.1).mono ?_
         rintro e w3 ⟨rfl,⟨lv3,hU⟩,hf⟩;have kk:=hU.setK (kp+1);rw[show ((kp+1:Nat):Int)=(kp:Int)+1 by omega] at kk;obtain⟨_,_,_,_,_,_,_,_,c8⟩:=hU.cells;have f8:=hU.w.frozen 8;have H3:=ac (ae kk ((jQ.of H1.out.2 (aM gl)).trans hf));clear hU hf kk)
      | (go_at_call 63;with_reducible refine HC.out.1.mono ?_
         rintro e w2 ⟨⟨v,rfl,hown⟩,hb2⟩;obtain⟨A2,n2,c2,rfl⟩:=eA hown;obtain rfl:=ff hown;obtain⟨ks,rfl⟩:=mP hown HC.out.2.2;have H1:=ac (ae hown hb2);clear hown hb2)
      | fail)
    refine bn ?_;exact⟨rfl,⟨_,H3.out.1.1⟩,H3.out.2.trans H3.out.1.2⟩
  | none=>
    have c1:=Fp (KB X) h hpl ho;have hbg:Do C.F (p:Int)=true:=by
      unfold Do;rw[aG (by omega),aG (by omega),bJ,hb];rfl
    have hpos:0<(eO C.F p).l.length:=by obtain⟨m,h1,_⟩:=kI C.F hpl;rw[h1];simp
    obtain⟨c0,_,_,_,_,_,_,c7,_⟩:=h.cells;have c2:∀(W2:World),Below W.heap.size W W2→Calls Tryz.prog 65 #[C.nv,.int .i64 (p:Int)] W2 fun e w'=>(∃ks cs,e=.returned (.tuple #[.slice (some ⟨ks,0,none⟩) (eO C.F p).l.length cs,.int .i64 ((eO C.F p).p:Int)])∧w'.ownsRow W2.heap.size 52 4 (.slice (some ⟨ks,0,none⟩) (eO C.F p).l.length cs) (eO C.F p).l.length (fm (eO C.F p).l))∧Below W2.heap.size W2 w':=fun W2 hb2=>by
      refine(z8 C.F (p:Int) C.nv W2 X.hfF (((h.next hb2).f.mono (aM (h.next hb2).w.lt)))).mono ?_;rintro e w' ⟨⟨v,q,rfl,(⟨h1,_⟩|⟨_,rfl,hown⟩)⟩,hb3⟩
      ·rw[hbg] at h1;cases h1
      ·rw[bJ] at hown ⊢;obtain⟨A2,n2,c2,rfl⟩:=eA hown;obtain rfl:=ff hown;obtain⟨ks,rfl⟩:=mP hown hpos;exact⟨⟨ks,c2,rfl,hown⟩,hb3⟩
    have c3:∀(W2 W3:World) (ks cs:Nat),Below W.heap.size W W2→Below W2.heap.size W2 W3→W3.ownsRow W2.heap.size 52 4 (.slice (some ⟨ks,0,none⟩) (eO C.F p).l.length cs) (eO C.F p).l.length (fm (eO C.F p).l)→Calls Tryz.prog 64 #[.pointer (some ⟨g,0,none⟩),.int .i64 (u:Int),.slice (some ⟨ks,0,none⟩) (eO C.F p).l.length cs,.int .i64 0] W3 fun e w'=>e=.returned (.tuple #[])∧Um g C (my C.F r u p) (eO C.F p).p kp w'∧jQ g W w':=fun W2 W3 ks cs hb2 hb3 hown=>by
      have hk:=(hown.lt ks rfl).1;have hw:=hb2.size;have hb4:=hb2.trans (hb3.mono hw);have hh:=F7 (eO C.F p).l _ 0 u ks cs (h.next hb4) (ME C.F hpl hF u r.length) (by omega) (by omega) (yd hown) (by omega) (fun e=>by have:=lvk ks e;omega);rw[GT C.F hpl] at hh;refine hh.mono ?_;rintro e w' ⟨rfl,h1,h2⟩;exact⟨rfl,h1,(jQ.of hb4 (aM gl)).trans h2⟩
    have HC:=ac (ae c1 (ae c2 (ae c3 h)));clear c1 c2 c3 lvk h hb ho hs hr hbg hpos;go_enter Tryz.func40,Tryz.ntmps40
    go_wp2_with (first
      | (go_at_call 63;with_reducible refine HC.out.1.mono ?_
         rintro e w2 ⟨rfl,hb2⟩;obtain⟨c0,_,_,_,_,_,_,c7,_⟩:=(HC.out.2.2.2.next hb2).cells;have H1:=ac hb2;clear hb2)
      | fail)
    go_region_held3 (fun w'=>w'.cell? ⟨g,0,none⟩=some C.nv∧w'.cell? ⟨g,7,none⟩=some (.int .i64 (p:Int)))
     (first|with_reducible exact⟨c0,c7⟩|exact⟨c0,c7⟩)
     (
      (go_at_call 65;with_reducible refine(HC.out.2.1 _ (H1.out.trans (((ay _ w2).drew).mono H1.out.size))).mono ?_
       rintro e w3 ⟨⟨ks,cs,rfl,hown⟩,hb3⟩;have H2:=ac (ae hown hb3);have c0:=jc ((ay _ w2).drew.trans hb3) c0;have c7:=jc ((ay _ w2).drew.trans hb3) c7;clear hown hb3))
    go_wp2_with (first
      | (go_at_call 64;with_reducible refine(HC.out.2.2.1 _ _ _ _ (H1.out.trans (((ay _ w2).drew).mono H1.out.size)) H2.out.2 H2.out.1).mono ?_
         rintro e w4 ⟨rfl,hU,hf⟩;have H3:=ac (ae hU hf);clear hU hf)
      | fail)
    go_end0;exact⟨rfl,H3.out.1,H3.out.2⟩
def pAt (g:Nat) (w:World):Nat:=match w.cell? ⟨g,7,none⟩ with|some (.int _ z)=>z.toNat|_=>0
theorem Um.pAt {g:Nat} {C:Uc} {r:List Nd} {p kp:Nat} {W:World} (h:Um g C r p kp W):pAt g W=p:=by
  obtain⟨lv,h⟩:=h;unfold Go.Proofs.YtmclohkaiemnaaaGreatDoor.pAt;rw[h.cells.2.2.2.2.2.2.2.1];exact bJ p
theorem Um.setP {g:Nat} {C:Uc} {r:List Nd} {p kp:Nat} {lv:Value} {W:World} (h:Ul g C r p kp lv W):Um g C r p kp W:=⟨lv,h⟩
def qV (C:Uc) (cs:List Nat):Nat:=(cs.map fun p=>(ly C p).toList.length).sum
theorem xu (C:Uc) (cs:List Nat) (p:Nat):qV C (cs++[p])=qV C cs+(ly C p).toList.length:=by unfold qV;simp
theorem Bp (C:Uc) (cs ds:List Nat):qV C (cs++ds)=qV C cs+qV C ds:=by unfold qV;simp
theorem Ko {F:List Lf} {q:Nat} (hq:q≤F.length):Do F (q:Int)=eN F (gO q):=by
  unfold Do;rw[aG (by omega),bJ];rcases bC q F.length with h|h
  ·rw[aG (by omega)];rfl
  ·rw[aE (by omega)]
   cases hb:eN F (gO q)
   ·rfl
   ·have:=lK hb
    have:q<F.length:=this
    omega
theorem uI {g:Nat} {C:Uc} {G:List Lf} {r:List Nd} {p kp:Nat} {W:World} (X:Uk C G) (h:Um g C r p kp W) (hp:p≤C.F.length) (W2:World) (hb:Below W.heap.size W W2) :
    jJ 18 #[C.nv,.int .i64 (p:Int)] W2 (.bool (eN C.F (gO p))):=by
  obtain⟨lv,h⟩:=h.next hb;rw[←Ko hp];exact uT C.F (p:Int) C.nv W2 X.hfF (h.f.mono (aM h.w.lt))
structure zz (g:Nat) (C:Uc) (P P0:List Nd) (p0 k0:Nat) (fin:Ps) (W:World) (p:Nat) (m:List Nd) (cs:List Nat) (w:World):Prop where
  u:Um g C (P++⟨2,p0,0,0⟩::m) p (k0+qV C cs) w
  f:jQ g W w
  b:uE C.F P.length (P.length+1) m cs
  n:P.length+1+m.length≤16*p+2
  le:p0≤p
  lt:p<C.F.length
  pb:eN C.F (gO p)=true
  hls:Ld C.F P.length (P0++[⟨2,p0,0,0⟩]++m) p fin
  hkn:k0+qV C cs≤P.length+m.length
def Le (g:Nat) (C:Uc) (P P0:List Nd) (p0 k0:Nat) (fin:Ps) (W:World) (q:Nat) (m:List Nd) (cs:List Nat) (t:Nat) (w:World):Prop:=
  fin=⟨q,P0++[⟨2,p0,0,0⟩]++m,(P.length:Int),0⟩∧Um g C (P++⟨2,p0,t,0⟩::m) q (k0+qV C cs) w∧jQ g W w∧uE C.F P.length (P.length+1) m cs∧p0≤q∧q≤C.F.length∧P.length+1+m.length≤16*q+5∧k0+qV C cs≤P.length+m.length
def C4 (F:List Lf) (b u p:Nat):List Nd:=(eO F p).l.map (lN 0 b (u:Int))
section
variable {g:Nat} {C:Uc} {G:List Lf} {P P0:List Nd} {p0 k0:Nat} {fin:Ps} {W:World} {p:Nat} {m:List Nd} {cs:List Nat} {w:World}
theorem zz.cmd (X:Uk C G) (hP:P0.length=P.length) (h:zz g C P P0 p0 k0 fin W p m cs w) :
    Calls Tryz.prog 40 #[.pointer (some ⟨g,0,none⟩),.int .i64 (P.length:Int)] w fun e w'=>e=.returned (.tuple #[]) ∧
      Um g C (P++⟨2,p0,0,0⟩::(m++C4 C.F (P.length+1+m.length) P.length p)) (eO C.F p).p (k0+qV C (cs++[p])) w'∧jQ g W w':=by
  have hc:=zC X P.length h.u h.lt h.pb (by rw[aD,aL];have:=h.n;omega) (by have:=h.n;have:=h.hkn;have:=X.hfF.n;have:=h.lt;omega);refine hc.mono ?_;rintro e w' ⟨rfl,h1,h2⟩;refine⟨rfl,?_,h.f.trans h2⟩;rw[xu,←Nat.add_assoc];unfold my at h1;rw[aW,bH,show (P++⟨2,p0,0,0⟩::m).length=P.length+1+m.length by rw[aD,aL];omega] at h1;exact h1
theorem zz.len (h:zz g C P P0 p0 k0 fin W p m cs w):P.length+1+(m++C4 C.F (P.length+1+m.length) P.length p).length≤16*(eO C.F p).p+5∧p≤(eO C.F p).p∧(eO C.F p).p≤C.F.length:=by
  have h1:=wR C.F (aM h.lt);have h2:=h.n;unfold C4;rw[aD,bE];omega
theorem Is (C:Uc) (p:Nat):(ly C p).toList.length≤1:=by cases ly C p<;>simp
theorem zz.kn2 (h:zz g C P P0 p0 k0 fin W p m cs w):k0+qV C (cs++[p])≤P.length+(m++C4 C.F (P.length+1+m.length) P.length p).length:=by
  have h1:=h.hkn;have h2:=Is C p;obtain⟨c,e,_⟩:=kI C.F (aM h.lt);rw[xu];unfold C4;rw[aD,bE,e,aL];omega
theorem zz.blk (h:zz g C P P0 p0 k0 fin W p m cs w):uE C.F P.length (P.length+1) (m++C4 C.F (P.length+1+m.length) P.length p) (cs++[p]):=h.b.app (aM h.lt)
theorem zz.hang (hP:P0.length=P.length) (h:zz g C P P0 p0 k0 fin W p m cs w):my C.F (P0++[⟨2,p0,0,0⟩]++m) P.length p=P0++[⟨2,p0,0,0⟩]++(m++C4 C.F (P.length+1+m.length) P.length p):=by
  unfold my C4;rw[show (P0++[(⟨2,p0,0,0⟩:Nd)]++m).length=P.length+1+m.length by simp[hP];omega,aW]
theorem zz.go (hP:P0.length=P.length) (h:zz g C P P0 p0 k0 fin W p m cs w) {q:Nat} {w':World} (hs:∀l:List Nd,gj C.F ⟨(eO C.F p).p,l,(P.length:Int),0⟩=(⟨q,l,(P.length:Int),0⟩,eN C.F (gO q))) (hq:(eO C.F p).p+1≤q) (hb:eN C.F (gO q)=true)
    (hu:Um g C (P++⟨2,p0,0,0⟩::(m++C4 C.F (P.length+1+m.length) P.length p)) q (k0+qV C (cs++[p])) w') (hf:jQ g W w'):zz g C P P0 p0 k0 fin W q (m++C4 C.F (P.length+1+m.length) P.length p) (cs++[p]) w':=by
  have h1:=h.len;refine⟨hu,hf,h.blk,by omega,by have:=h.le;omega,lK hb,hb,?_,?_⟩
  ·have h2:=ND h.hls (aM h.lt) (by rw[hs,hb])
   rwa [h.hang hP] at h2
  ·exact h.kn2
theorem zz.endd (hP:P0.length=P.length) (h:zz g C P P0 p0 k0 fin W p m cs w) {q:Nat} {w':World} (hs:∀l:List Nd,gj C.F ⟨(eO C.F p).p,l,(P.length:Int),0⟩=(⟨q,l,(P.length:Int),0⟩,false)) (hq:(eO C.F p).p≤q) (hq2:q≤C.F.length)
    (hu:Um g C (P++⟨2,p0,0,0⟩::(m++C4 C.F (P.length+1+m.length) P.length p)) q (k0+qV C (cs++[p])) w') (hf:jQ g W w'):Le g C P P0 p0 k0 fin W q (m++C4 C.F (P.length+1+m.length) P.length p) (cs++[p]) 0 w':=by
  have h1:=h.len;have h2:=Mb h.hls (aM h.lt) (hs _);rw[h.hang hP] at h2;exact⟨h2,hu,hf,h.blk,by have:=h.le;omega,hq2,by omega,h.kn2⟩
end
inductive Dt (L:List Nd):List Nat→Nat→Prop
  | root:Dt L [] 0
  | step {ys:List Nat} {u k:Nat} {n:Nd}:Dt L ys u→L[k]? = some n→n.up=(u:Int)→u<k→Dt L (ys++[u]) k
theorem Dt.pop {L:List Nd} {n:Nat} (h0:L[0]? = some ⟨1,0,n, -1⟩) {ys:List Nat} {t u:Nat} (h:Dt L ys t) (ha:xc L u t) (hne:t≠u):∃ys0 u0,ys=ys0++[u0]∧Dt L ys0 u0∧xc L u u0∧u0<t:=by
  cases h with
  | root=>
    cases ha with
    | refl=>exact absurd rfl hne
    | step h1 h2 h3 _=>omega
  | @step ys0 u0 _ m h1 h2 h3 h4=>
    cases ha with
    | refl=>exact absurd rfl hne
    | @step _ c m2 e1 e2 e3 e4=>
      rw[h2] at e1
      cases e1
      have:c=u0:=by omega
      subst this;exact⟨ys0,c,rfl,h1,e4,h4⟩
theorem Dt.len {L:List Nd} {ys:List Nat} {t:Nat} (h:Dt L ys t):ys.length≤t:=by
  induction h with
  | root=>exact au _
  | step _ _ _ h ih=>rw[aD,bU];omega
def Oj (L:List Nd) (E:List Int) (k:Nat):Prop:=E.length=L.length∧∀(u:Nat) (e:Int),E[u]? = some e→e=0∨∃(j:Nat) (q:Nd),0<j∧j<k∧L[j]? = some q∧q.up=(u:Int)∧e=(q.tt:Int)
theorem Oj.put {L:List Nd} {E:List Int} {k u:Nat} {x:Nd} (h:Oj L E k) (hk:0<k) (hx:L[k]? = some x) (hu:x.up=(u:Int)):Oj L (E.set u (x.tt:Int)) (k+1):=by
  refine⟨by rw[List.length_set];exact h.1,fun v e he=>?_⟩;by_cases hv:u=v
  ·subst hv;rw[List.getElem?_set] at he;simp only[bP] at he;split at he
   ·cases he;exact .inr ⟨k,x,hk,by omega,hx,hu,rfl⟩
   ·cases he
  ·rw[List.getElem?_set_ne hv] at he;rcases h.2 v e he with h1|⟨j,q,j0,j1,j2,j3,j4⟩
   ·exact .inl h1
   ·exact .inr ⟨j,q,j0,by omega,j2,j3,j4⟩
theorem Ge (kd fr tt up:Int) (w:World) (h1:1≤kd) (h2:kd≤18) (h3:fr≤tt) :
    jJ 36 #[.agg #[.int .i64 kd,.int .i64 fr,.int .i64 tt,.int .i64 up]] w (.bool true):=by
  go_enter Tryz.func36,Tryz.ntmps36;go_wp2;go_ret;exact⟨rfl,(ay _ w).alloc (au _) _⟩
theorem Dk (L:List Nd) (A:Option Addr) (c nl:Nat) (w:World) (hl:L.length≤90000) (hrd:Rd w w.heap.size 4 (.slice A L.length c) L.length (fm L)) (hok:qN L) (h0:L[0]? = some ⟨1,0,nl, -1⟩) :
    jJ 15 #[.slice A L.length c,.int .i64 (nl:Int)] w (.bool true):=by
  have hmix:Tryz.prog.follows .mixedOrders=true:=by kernel_rfl
  obtain⟨i0,hi,hz0,hz1,hz2⟩:=cL Tryz.infoInt29;have hne:0<L.length:=(az.1 h0).1;have hne1:((L.length:Int)==0)=false:=aN (by omega);have hne2:(0:Int)<(L.length:Int):=by omega
  obtain⟨g,o,rfl,hgl,hc0⟩:=fW gu hrd h0 rfl;have y0:w.cell? ⟨g,o,none⟩=some (.int .i64 1):=by have:=hc0 0 _ rfl;simpa using this
  have y1:w.cell? ⟨g,o+1,none⟩=some (.int .i64 0):=by have:=hc0 1 _ rfl;simpa using this
  have y2:w.cell? ⟨g,o+2,none⟩=some (.int .i64 (nl:Int)):=by have:=hc0 2 _ rfl;simpa using this
  have y3:w.cell? ⟨g,o+3,none⟩=some (.int .i64 (-1)):=by have:=hc0 3 _ rfl;simpa using this
  have HC:=ac (ae hrd (ae hok h0));have hnl:(0:Int)≤(nl:Int):=by omega
  clear hrd hok hc0 h0;go_enter Tryz.func15,Tryz.ntmps15;go_upto_region 3 with (
    (go_at_call 36;refine(Ge _ _ _ _ _ (by omega) (by omega) hnl).mono ?_;rintro e w1 ⟨rfl,hb1⟩;have H1:=ac hb1;clear hb1))
  go_upto_region 4 with fail
  obtain⟨W1,hW1⟩:∃W1,W1=w1.alloc (.cells #[.int .i64 0] 3):=⟨_,rfl⟩;rw[←hW1];have p1:W1.ownsRow w1.heap.size 3 1 (.slice (some ⟨w1.heap.size,0,none⟩) 1 1) 1 (zu [0]):=by rw[hW1];exact World.ownsRow_lit _ _ 1 (au _) (by unfold maxLen;omega) rfl
  have hb1:Below w1.heap.size w1 W1:=by rw[hW1];exact(ay _ _).alloc (au _) _
  have hs1:W1.heap.size=w1.heap.size+1:=by rw[hW1];simp
  obtain⟨W2,hmk,hown2,hg2⟩:=run_makeSlice_full (P:=Tryz.prog) W1 W1.heap.size 73 3 i0 _ 1 Tryz.underlying73 hi hz0 hz1 .i64 .i64 L.length (by omega) (by rw[hz2];omega) (by unfold maxLen;omega) (au _);have hb2:Below W1.heap.size W1 W2:=(ay _ W1).grown hg2 (au _) (fun k hk=>by cases hk);have hbw:Below w.heap.size w W2:=(H1.out.trans (hb1.mono H1.out.size)).trans (hb2.mono (by have:=H1.out.size;omega));have hw1:=H1.out.size;have e0:(madeCells (Value.int .i64 0).cells (L.length*1)).toList=(List.replicate L.length (0:Int)).map (Value.int .i64):=by
    rw[show (Value.int .i64 0).cells=#[Value.int .i64 0] from rfl,toList_madeCells_one,List.map_replicate,Nat.mul_one]
  rw[e0] at hown2;have HM:=ac hmk;obtain⟨ge,hge⟩:∃ge,ge=W1.heap.size:=⟨_,rfl⟩;obtain⟨g5,hg5⟩:∃g5,g5=w1.heap.size:=⟨_,rfl⟩;have HW:=ac (ae (iW (B':=w.heap.size) (eC p1 hb2) hw1) (ae (iW (B':=w.heap.size) hown2 (by omega)) (ae hbw (show g5≠ge by omega))));rw[←hge,←hg5] at HW;clear p1 hb1 hb2 hbw hown2 hg2 hmk e0 hW1 y0 y1 y2 y3;go_wp2_with fail;rw[HM.out];rw[←hge,←hg5];clear hge hg5 hs1 hw1;go_wp2_with fail;go_loopw [5,7] (fun s5 i wr=>∃(k:Nat) (ys:List Nat) (t:Nat) (E:List Int),0<k∧k≤L.length∧i=.int .i64 (k:Int)∧t+1=k∧Dt L ys t∧Oj L E k∧wr.ownsRow w.heap.size 3 1 s5 (ys.length+1) (zu (ys++[t]))∧wr.ownsRow w.heap.size 3 1 (.slice (some ⟨ge,0,none⟩) L.length L.length) L.length (E.map (Value.int .i64))∧s5.ownBlock≠some ge∧Below w.heap.size w wr) (fun s5 i _=>L.length-(intOf i).toNat)
  case atStart=>exact⟨1,[],0,List.replicate L.length 0,Nat.one_pos,by omega,rfl,rfl,Dt.root,⟨List.length_replicate,fun u e he=>.inl (List.eq_of_mem_replicate (aI he))⟩,HW.out.1,HW.out.2.1,fun e=>HW.out.2.2.2 (by injection e),HW.out.2.2.1⟩
  case round=>
    obtain⟨k,ys,t,E,hk0,hk,rfl,htk,hP,hE,hp,hen,hne5,hb⟩:=hrel;by_cases hlt:k<L.length
    ·have u1:(k:Int)<(L.length:Int):=by omega
     have u2:(0:Int)≤(k:Int):=by omega
     obtain⟨x,hx⟩:∃x,L[k]? = some x:=⟨_,ax hlt⟩;obtain⟨g0,o0,eg,_,hc⟩:=fW gu (HC.out.1.keep hb (au _)) hx rfl
     cases eg;have hn:=HC.out.2.1 k x hx;obtain⟨u,m,n1,n2,n3,n4,n5,n6,n7⟩:=hn.u hk0;obtain⟨g0,o0,eg,_,hcu⟩:=fW gu (HC.out.1.keep hb (au _)) n4 rfl
     cases eg;obtain⟨kd,hkd⟩:∃z:Int,z=(x.kd:Int):=⟨_,rfl⟩;obtain⟨fr,hfr⟩:∃z:Int,z=(x.fr:Int):=⟨_,rfl⟩;obtain⟨tt,htt⟩:∃z:Int,z=(x.tt:Int):=⟨_,rfl⟩;obtain⟨yf,hyf⟩:∃z:Int,z=(m.fr:Int):=⟨_,rfl⟩;obtain⟨yt,hyt⟩:∃z:Int,z=(m.tt:Int):=⟨_,rfl⟩;have z0:wr.cell? ⟨g,o+k*4,none⟩=some (.int .i64 kd):=by rw[hkd];exact hc 0 _ rfl
     have z1:wr.cell? ⟨g,o+k*4+1,none⟩=some (.int .i64 fr):=by rw[hfr];exact hc 1 _ rfl
     have z2:wr.cell? ⟨g,o+k*4+2,none⟩=some (.int .i64 tt):=by rw[htt];exact hc 2 _ rfl
     have z3:wr.cell? ⟨g,o+k*4+3,none⟩=some (.int .i64 (u:Int)):=by rw[←n1];exact hc 3 _ rfl
     have hv1:wr.cell? ⟨g,o+u*4+1,none⟩=some (.int .i64 yf):=by rw[hyf];exact hcu 1 _ rfl
     have hv2:wr.cell? ⟨g,o+u*4+2,none⟩=some (.int .i64 yt):=by rw[hyt];exact hcu 2 _ rfl
     have hul:u<E.length:=by rw[hE.1];omega
     obtain⟨en,hen1⟩:∃en,E[u]? = some en:=⟨_,ax hul⟩;have hef:en≤fr:=by
       rcases hE.2 u en hen1 with h|⟨j,q,j0,j1,j2,j3,j4⟩
       ·omega
       ·have:=n7 j q j0 j1 j2 (by rw[j3,n1]);omega
     have hec:wr.cell? ⟨ge,u,none⟩=some (.int .i64 en):=eM hen u _ (by rw[aV,hen1];rfl);have hE2:=hE.put hk0 hx n1;have q1:1≤kd:=by have:=hn.k.1;omega
     have q2:kd≤18:=by have:=hn.k.2.1;omega
     have q3:fr≤tt:=by have:=hn.le;omega
     have t7:decide (fr<max yf en)=false:=aE (by omega);have t8:decide (yt<tt)=false:=aE (by omega);have HQ:=ac (fun W=>Ge kd fr tt (u:Int) W q1 q2 q3);have hu3:(u:Int)<(L.length:Int):=by omega
     have hu4:(0:Int)≤(u:Int):=by omega
     obtain⟨nb,hnb⟩:∃nb,nb=wr.heap.size:=⟨_,rfl⟩;obtain⟨WA,hWA⟩:∃WA,WA=wr.alloc (.cells #[.int .i64 kd,.int .i64 fr,.int .i64 tt,.int .i64 (u:Int)] 52):=⟨_,rfl⟩;have hbA:Below wr.heap.size wr WA:=by rw[hWA];exact(ay _ _).alloc (au _) _
     have kb:Bk WA nb 52 #[.int .i64 kd,.int .i64 fr,.int .i64 tt,.int .i64 (u:Int)]:=by rw[hWA,hnb];exact Bk.new _ _ _
     replace n3:xc L u t:=by rw[show t=k-1 by omega];exact n3
     have HN:=ac (ae hE2 (ae n3 (ae (eC hp hbA) (ae (eC hen hbA) (ae hne5 (ae (hb.trans (hbA.mono hb.size)) (ae kb (ae hP (ae hx (ae n1 htt))))))))));have HV:=ac (ae (jc hbA hv1) (ae (jc hbA hv2) (jc hbA hec)));have htk2:t<k:=by omega
     have HZ:=ac (fun zs v (h:Dt L zs v) (hv:v<k)=>(show zs.length<L.length by have:=h.len;omega));clear hE2 n3 hp hen hne5 hb hbA kb hP hE hx n1 n2 n4 n5 n6 n7 hc hcu hn hv1 hv2 hec hen1 hkd hfr htt hyf hyt hef htk;go_upto_block 9 with fail
     rw[←hnb,←hWA];have HB:=ac hnb;clear hnb hWA z0 z1 z2 z3;go_loopw [5] (fun s5 wv=>∃(zs:List Nat) (v:Nat) (q:Nat),wv=WA.drewN q∧Dt L zs v∧xc L u v∧v<k∧WA.ownsRow w.heap.size 3 1 s5 (zs.length+1) (zu (zs++[v]))∧s5.ownBlock≠some ge) (fun s5 _=>match s5 with | .slice _ n _=>n|_=>0)
     case atStart=>exact⟨ys,t,0,rfl,HN.out.2.2.2.2.2.2.2.1,HN.out.2.1,htk2,HN.out.2.2.1,HN.out.2.2.2.2.1⟩
     case round=>
       obtain⟨zs,v,nd,rfl,hP,hA,hvk,hp,hne5⟩:=hrel;obtain⟨gp,cp,rfl⟩:=gS hp;obtain⟨_,hcp1,hcp2,_,_⟩:=iu hp;unfold maxLen at hcp2;have hzl:zs.length<L.length:=HZ.out zs v hP hvk;have x1:WA.cell? ⟨gp,zs.length,none⟩=some (.int .i64 (v:Int)):=eM hp _ _ (by rw[tK];simp[zu]);have b3:WA.cell? ⟨nb,3,none⟩=some (.int .i64 (u:Int)):=by rw[HN.out.2.2.2.2.2.2.1.cell];rfl
       by_cases hvu:v=u
       ·subst hvu;have t1:((v:Int)!=(v:Int))=false:=by simp
        have HX:=ac (ae hP (ae hp hne5));have hn0:=ac (rfl:zs.length=zs.length);clear hP hA hp hne5;obtain⟨n,hn⟩:∃n,n=zs.length:=⟨_,rfl⟩;have HNn:=ac hn;rw[←hn] at x1 hzl hcp1 HX ⊢;clear hn;have w1:IntKind.i64.wrap (n:Int)=(n:Int):=aO _ (by omega);have w2:IntKind.i64.wrap ((n:Int)+1-1)=(n:Int):=by rw[show (n:Int)+1-1=(n:Int) by omega];exact w1
        have w3:(n:Int)<(n:Int)+1:=by omega
        have w4:(0:Int)≤(n:Int):=by omega
        have w5:n<n+1:=by omega
        go_wp2_with fail;go_quiet (fail);go_wp2_with fail;clear x1 b3 t1;obtain⟨W2,hW2⟩:∃W2,W2=(WA.drewN nd).drewN nq:=⟨_,rfl⟩;rw[←hW2];have kb:Bk W2 nb 52 #[.int .i64 kd,.int .i64 fr,.int .i64 tt,.int .i64 (v:Int)]:=by rw[hW2];exact HN.out.2.2.2.2.2.2.1
        have b0:W2.cell? ⟨nb,0,none⟩=some (.int .i64 kd):=by rw[kb.cell];rfl
        have b1:W2.cell? ⟨nb,1,none⟩=some (.int .i64 fr):=by rw[kb.cell];rfl
        have b2:W2.cell? ⟨nb,2,none⟩=some (.int .i64 tt):=by rw[kb.cell];rfl
        have b3:W2.cell? ⟨nb,3,none⟩=some (.int .i64 (v:Int)):=by rw[kb.cell];rfl
        have v1:W2.cell? ⟨g,o+v*4+1,none⟩=some (.int .i64 yf):=by rw[hW2];exact HV.out.1
        have v2:W2.cell? ⟨g,o+v*4+2,none⟩=some (.int .i64 yt):=by rw[hW2];exact HV.out.2.1
        have e1:W2.cell? ⟨ge,v,none⟩=some (.int .i64 en):=by rw[hW2];exact HV.out.2.2
        have HY:=ac (ae kb (ae (show W2.ownsRow w.heap.size 3 1 (.slice (some ⟨gp,0,none⟩) (n+1) cp) (n+1) (zu (zs++[v])) by rw[hW2];exact HX.out.2.1) (ae (show W2.ownsRow w.heap.size 3 1 (.slice (some ⟨ge,0,none⟩) L.length L.length) L.length (E.map (Value.int .i64)) by rw[hW2];exact HN.out.2.2.2.1) (show Below w.heap.size w W2 by rw[hW2];exact dX (dX HN.out.2.2.2.2.2.1 _) _))));clear hW2 kb;obtain⟨S0,hS0⟩:∃S0:World→Prop,S0=fun w'=>Below W2.heap.size W2 w':=⟨_,rfl⟩
        refine wp_region_held (S:=S0) hmix ?_;show wpAnyH _ _ _ _ _ _ _ _ W2.drew;have hS1:S0 W2.drew:=by rw[hS0];exact(ay _ W2).drew
        have tc:∀(w':World),S0 w'→∀(a:Addr) (v:Value),W2.cell? a=some v→w'.cell? a=some v:=fun w' h a v hc=>jc (by rw[hS0] at h;exact h) hc
        refine tk 0 (.slice (some ⟨gp,0,none⟩) (n+1) cp) hS1 (fun w' hS=>?_) ?_
        ·go_simp
        try simp only[Act.put,am,ai,aj,aa,an,ar]
        refine tk 1 (.int .i64 ((n:Int)+1)) hS1 (fun w' hS=>?_) ?_
        ·go_simp
        try simp only[Act.put,am,ai,aj,aa,an,ar]
        refine tk 2 (.bool false) hS1 (fun w' hS=>?_) ?_
        ·go_simp;omega
        try simp only[Act.put,am,ai,aj,aa,an,ar]
        refine tk 3 (.bool false) hS1 (fun w' hS=>?_) ?_
        ·go_simp
        try simp only[Act.put,am,ai,aj,aa,an,ar]
        refine tk 4 (.agg #[.int .i64 kd,.int .i64 fr,.int .i64 tt,.int .i64 (v:Int)]) hS1 (fun w' hS=>?_) ?_
        ·have c0:=tc w' hS _ _ b0;have c1:=tc w' hS _ _ b1;have c2:=tc w' hS _ _ b2;have c3:=tc w' hS _ _ b3;go_simp
        try simp only[Act.put,am,ai,aj,aa,an,ar]
        refine wpAnyH_all (rs:=[5]) (by decide +kernel) (by simp) (nX rfl (by rfl) (fun K2 hK2=>?_) (nY (S:=S0)));go_simp;go_at_call 36;refine(HQ.out _).mono ?_;rintro e w3 ⟨rfl,hb⟩;have H3:=ac ((ay _ W2).drew.trans hb);clear hb;have hS2:S0 w3:=by rw[hS0];exact H3.out
        refine hK2 _ _ hS2 ?_;clear hK2 K2;try simp only[Act.put,am,ai,aj,aa,an,ar]
        refine tk 6 (.bool false) hS2 (fun w' hS=>?_) ?_
        ·go_simp
        try simp only[Act.put,am,ai,aj,aa,an,ar]
        refine tk 7 (.bool false) hS2 (fun w' hS=>?_) ?_
        ·go_simp
        try simp only[Act.put,am,ai,aj,aa,an,ar]
        refine tk 8 (.bool false) hS2 (fun w' hS=>?_) ?_
        ·go_simp
        try simp only[Act.put,am,ai,aj,aa,an,ar]
        refine tk 9 (.pointer (some ⟨nb,1,none⟩)) hS2 (fun w' hS=>?_) ?_
        ·go_simp
        try simp only[Act.put,am,ai,aj,aa,an,ar]
        refine tk 10 (.int .i64 fr) hS2 (fun w' hS=>?_) ?_
        ·have c0:=tc w' hS _ _ b1;go_simp
        try simp only[Act.put,am,ai,aj,aa,an,ar]
        refine tk 11 (.slice (some ⟨g,o,none⟩) L.length c) hS2 (fun w' hS=>?_) ?_
        ·go_simp
        try simp only[Act.put,am,ai,aj,aa,an,ar]
        refine tk 12 (.pointer (some ⟨nb,3,none⟩)) hS2 (fun w' hS=>?_) ?_
        ·go_simp
        try simp only[Act.put,am,ai,aj,aa,an,ar]
        refine tk 13 (.int .i64 (v:Int)) hS2 (fun w' hS=>?_) ?_
        ·have c0:=tc w' hS _ _ b3;go_simp
        try simp only[Act.put,am,ai,aj,aa,an,ar]
        refine tk 14 (.pointer (some ⟨g,o+v*4,none⟩)) hS2 (fun w' hS=>?_) ?_
        ·go_simp
        try simp only[Act.put,am,ai,aj,aa,an,ar]
        refine tk 15 (.pointer (some ⟨g,o+v*4+1,none⟩)) hS2 (fun w' hS=>?_) ?_
        ·go_simp
        try simp only[Act.put,am,ai,aj,aa,an,ar]
        refine tk 16 (.int .i64 yf) hS2 (fun w' hS=>?_) ?_
        ·have c0:=tc w' hS _ _ v1;go_simp
        try simp only[Act.put,am,ai,aj,aa,an,ar]
        refine tk 17 (.slice (some ⟨ge,0,none⟩) L.length L.length) hS2 (fun w' hS=>?_) ?_
        ·go_simp
        try simp only[Act.put,am,ai,aj,aa,an,ar]
        refine tk 18 (.pointer (some ⟨nb,3,none⟩)) hS2 (fun w' hS=>?_) ?_
        ·go_simp
        try simp only[Act.put,am,ai,aj,aa,an,ar]
        refine tk 19 (.int .i64 (v:Int)) hS2 (fun w' hS=>?_) ?_
        ·have c0:=tc w' hS _ _ b3;go_simp
        try simp only[Act.put,am,ai,aj,aa,an,ar]
        refine tk 20 (.pointer (some ⟨ge,v,none⟩)) hS2 (fun w' hS=>?_) ?_
        ·go_simp
        try simp only[Act.put,am,ai,aj,aa,an,ar]
        refine tk 21 (.int .i64 en) hS2 (fun w' hS=>?_) ?_
        ·have c0:=tc w' hS _ _ e1;go_simp
        try simp only[Act.put,am,ai,aj,aa,an,ar]
        refine tk 22 (.int .i64 (max yf en)) hS2 (fun w' hS=>?_) ?_
        ·go_simp
        try simp only[Act.put,am,ai,aj,aa,an,ar]
        refine tk 23 (.bool false) hS2 (fun w' hS=>?_) ?_
        ·go_simp
        try simp only[Act.put,am,ai,aj,aa,an,ar]
        refine tk 24 (.bool false) hS2 (fun w' hS=>?_) ?_
        ·go_simp
        try simp only[Act.put,am,ai,aj,aa,an,ar]
        refine tk 25 (.bool false) hS2 (fun w' hS=>?_) ?_
        ·go_simp
        try simp only[Act.put,am,ai,aj,aa,an,ar]
        refine tk 26 (.pointer (some ⟨nb,2,none⟩)) hS2 (fun w' hS=>?_) ?_
        ·go_simp
        try simp only[Act.put,am,ai,aj,aa,an,ar]
        refine tk 27 (.int .i64 tt) hS2 (fun w' hS=>?_) ?_
        ·have c0:=tc w' hS _ _ b2;go_simp
        try simp only[Act.put,am,ai,aj,aa,an,ar]
        refine tk 28 (.slice (some ⟨g,o,none⟩) L.length c) hS2 (fun w' hS=>?_) ?_
        ·go_simp
        try simp only[Act.put,am,ai,aj,aa,an,ar]
        refine tk 29 (.pointer (some ⟨nb,3,none⟩)) hS2 (fun w' hS=>?_) ?_
        ·go_simp
        try simp only[Act.put,am,ai,aj,aa,an,ar]
        refine tk 30 (.int .i64 (v:Int)) hS2 (fun w' hS=>?_) ?_
        ·have c0:=tc w' hS _ _ b3;go_simp
        try simp only[Act.put,am,ai,aj,aa,an,ar]
        refine tk 31 (.pointer (some ⟨g,o+v*4,none⟩)) hS2 (fun w' hS=>?_) ?_
        ·go_simp
        try simp only[Act.put,am,ai,aj,aa,an,ar]
        refine tk 32 (.pointer (some ⟨g,o+v*4+2,none⟩)) hS2 (fun w' hS=>?_) ?_
        ·go_simp
        try simp only[Act.put,am,ai,aj,aa,an,ar]
        refine tk 33 (.int .i64 yt) hS2 (fun w' hS=>?_) ?_
        ·have c0:=tc w' hS _ _ v2;go_simp
        try simp only[Act.put,am,ai,aj,aa,an,ar]
        refine tk 34 (.bool false) hS2 (fun w' hS=>?_) ?_
        ·go_simp
        try simp only[Act.put,am,ai,aj,aa,an,ar]
        refine tk 35 (.bool false) hS2 (fun w' hS=>?_) ?_
        ·go_simp
        try simp only[Act.put,am,ai,aj,aa,an,ar]
        refine wpAnyH_done (by decide +kernel) ?_ _;have kb:=HY.out.1.below H3.out HY.out.1.lt;have hen:=eC HY.out.2.2.1 H3.out;have f3:w3.frozen? ⟨ge,v,none⟩=false:=fZ hen v;have b2:w3.cell? ⟨nb,2,none⟩=some (.int .i64 tt):=by rw[kb.cell];rfl
        have b3:w3.cell? ⟨nb,3,none⟩=some (.int .i64 (v:Int)):=by rw[kb.cell];rfl
        have e1:w3.cell? ⟨ge,v,none⟩=some (.int .i64 en):=jc H3.out e1;have hst:=hen.stored v (.int .i64 tt);have hpx:(w3.setCell ⟨ge,v,none⟩ (.int .i64 tt)).ownsRow w.heap.size 3 1 (.slice (some ⟨gp,0,none⟩) (n+1) cp) (n+1) (zu (zs++[v])):=fh (eC HY.out.2.1 H3.out) (fun e=>HX.out.2.2 e) _;have hbz:Below w.heap.size w (w3.setCell ⟨ge,v,none⟩ (.int .i64 tt)):=dV (HY.out.2.2.2.trans (H3.out.mono HY.out.2.2.2.size)) hst.2 (aA HY.out.2.2.2.size H3.out.size) (fun k hk=>by injection hk with hk;have:=(hen.lt ge rfl).1;omega);have HZ2:=ac (ae hst.1 (ae hpx hbz));clear kb hen hst hpx hbz b0 b1 v1 v2 hS1 hS2 tc hS0 t7 t8;go_upto_region 14 with fail
        clear f3 b2 b3 e1;generalize w3.setCell {block:=ge,off:=v} (Value.int IntKind.i64 tt)=W4 at *
        go_wp2_with (first
          | (at_builtin
             refine gE rfl (.tmp 116) (.tmp 118) 73 rfl w.heap.size 3 i0 _ 1 8 Tryz.underlying73 hi hz0 hz1 hz2 rfl (by decide) (.slice (some ⟨gp,0,none⟩) (n+1) cp) (n+1) (zu (zs++[v])) rfl (HZ2.out.2.1.alloc _) (.slice (some ⟨W4.heap.size,0,none⟩) 1 1) 1 (W4.heap.size+1) (zu [k]) rfl (iK W4 (zu [k]) 3 1 1 rfl (by omega)) (L0 _) (by unfold maxLen;omega) (by omega) (by have:=HZ2.out.2.2.size;simp;omega) ?_;intro v6 w6 hown6 hg6 hv6;have H6:=ac (ae hown6 (ae hg6 hv6));clear hown6 hg6 hv6))
        obtain⟨hown6,hg6,hv6⟩:=H6.out;obtain⟨z1,z2,z3⟩:=HZ2.out;obtain⟨n1,_,_,_,_,_,_,_,n9,n10,n11⟩:=HN.out;have hz3:=z3.size;have hlz:=(z2.lt gp rfl).1;have hgg:ge≠gp:=fun e=>HX.out.2.2 (by rw[e];rfl)
        have hzw:=(z1.lt ge rfl).2;refine⟨⟨k+1,zs++[v],k,E.set v tt,by omega,by omega,by go_num,rfl,Dt.step HX.out.1 n9 n10 hvk,by rw[n11];exact n1,?_,?_,?_,?_⟩,by simp[intOf];omega⟩
        ·rw[←tK,HNn.out] at hown6;rw[aD,bU];exact hown6
        ·rw[List.map_set];exact World.ownsRow.kept (z1.alloc _) hg6 (Or.inr (fun e=>hgg ((dh _ _).mp e)))
        ·rcases hv6 with e|e
         ·rw[e];exact HX.out.2.2
         ·rw[e];intro e2;have e3:=(dh _ _).mp e2;simp at e3;omega
        ·exact(z3.alloc hz3 _).grown hg6 (by simp;omega) (fun j hj=>(show gp=j by simpa [Value.ownBlock] using hj)▸hlz)
       ·obtain⟨zs0,u0,hzs,hP0,hA0,hlt0⟩:=hP.pop HC.out.2.2 hA hvu;have t1:((v:Int)!=(u:Int))=true:=by simp;omega
        obtain⟨n,hn⟩:∃n,n=zs.length:=⟨_,rfl⟩;have hnz:n=zs0.length+1:=by rw[hn,hzs,aD];rfl
        have hp2:WA.ownsRow w.heap.size 3 1 (.slice (some ⟨gp,0,none⟩) n cp) n (zu zs):=by
          rw[tK zs v,←hn] at hp;exact ownsRow_pop (by rw[hn];simp[zu]) hp
        rw[hzs,hnz] at hp2;have HX:=ac (ae hP0 (ae hA0 (ae hp2 (ae hne5 (ae hlt0 hnz)))));rw[←hn] at x1 hzl hcp1 ⊢;clear hP hA hp hne5 hP0 hA0 hp2 hzs hn hnz;have w1:IntKind.i64.wrap (n:Int)=(n:Int):=aO _ (by omega);have w2:IntKind.i64.wrap ((n:Int)+1-1)=(n:Int):=by rw[show (n:Int)+1-1=(n:Int) by omega];exact w1
        have w3:(n:Int)<(n:Int)+1:=by omega
        have w4:(0:Int)≤(n:Int):=by omega
        have w5:n<n+1:=by omega
        have w6:(n:Int)≤(cp:Int):=by omega
        go_wp2_with fail;go_quiet (fail);go_wp2_with fail;have hnz:=HX.out.2.2.2.2.2;exact⟨⟨zs0,u0,_,rfl,HX.out.1,HX.out.2.1,by have:=HX.out.2.2.2.2.1;omega,by rw[hnz];exact HX.out.2.2.1,HX.out.2.2.2.1⟩,by show n<n+1;omega⟩
    ·obtain rfl:k=L.length:=by omega
     have HE:=ac hb;clear hE hp hen hne5 hb hP;go_wp2_with fail;go_ret;exact⟨rfl,HE.out⟩
end
end Go.Proofs.YtmclohkaiemnaaaGreatDoor
