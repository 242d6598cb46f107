/- Reparse: older: what is taken over at a leaf. -/
import Derived.Test.YtfagdpfgifgnoaaGreatDoorUm14
import Derived.Test.YtfagdpfgifgnoaaGreatDoorOd14
import Derived.Test.YtfagdpfgifgnoaaGreatDoorWs13
import Derived.Test.YtfagdpfgifgnoaaGreatDoorSt13
import Derived.Test.YtfagdpfgifgnoaaGreatDoorTo29
import Derived.Test.YtfagdpfgifgnoaaGreatDoorPm13
import Derived.BigQuiet
namespace Go.Proofs.YtfagdpfgifgnoaaGreatDoor
open Go.RowKit
set_option linter.unusedVariables false
set_option linter.unusedSimpArgs false
set_option maxRecDepth 100000
def oldC (C:Uc) (p:Nat):Option (Nat×Int):=
  if 0<C.f (p:Int)∧(((C.L[(C.f (p:Int)).toNat]?).map Nd.tt).getD 0:Nat)+2≤C.hd then some ((C.f (p:Int)).toNat,0)
  else if p+C.tl<C.F.length then none
  else if 0<C.f ((p:Int)-C.mo) then some ((C.f ((p:Int)-C.mo)).toNat,C.mo) else none
structure Ub (C:Uc):Prop where
  F:C.F.length≤900
  L:C.L.length≤90000
  mo : -900≤C.mo∧C.mo≤900
  hd:C.hd≤900
  tl:C.tl≤900
  up:∀x∈C.L, -1≤x.up∧x.up≤100000
  tto:∀x∈C.L,x.tt≤100000
  f:∀x:Int,0<C.f x→C.f x<(C.L.length:Int)
def OldA (S:List Nd) (z:Int) (B:Nat) (e:Ending) (w:World):Prop:=∃v,e=.returned (.tuple #[v,.int .i64 z,.bool true])∧w.ownsRow B 49 4 v S.length (dt S)
set_option maxHeartbeats 4000000 in
theorem older_yes {g:Nat} {C:Uc} {r:List Nd} {p kp i:Nat} {z:Int} {S:List Nd} {lv:Value} {W:World} (B:Ub C) (h:Ul g C r p kp lv W) (hp:p≤C.F.length) (ho:oldC C p=some (i,z)) (hS:SubR C.L S i) :
    Calls Tryz.prog 77 #[.pointer (some ⟨g,0,none⟩)] W fun e w'=>OldA S z W.heap.size e w'∧Below W.heap.size W w':=by
  obtain⟨b1,b2,b3,b4,b5,b6,b7,b8⟩:=B;obtain⟨c0,c1,c2,c3,c4,c5,_,c7,_⟩:=h.cells;have hor:=h.o;have hfr:=h.f;have gl:=h.w.lt;have lk1:=fun n=>(h.m.drewN n).look (x:=(p:Int)) (by omega) (by omega)
  have lk2:=fun n=>(h.m.drewN n).look (x:=(p:Int)-C.mo) (by omega) (by omega)
  have k1:=b8 (p:Int);have k2:=b8 ((p:Int)-C.mo);have csub:=fun (i:Nat) (hS:SubR C.L S i) (W2:World) (hb:Below W.heap.size W W2) (A:Option Addr) (c:Nat) (e:C.ov=.slice A C.L.length c)=>sub_m C.L S i c A W2 b2 hS b6 (by rw[←e];exact(hor.keep (hb.mono (Nat.le_of_lt gl)) (Nat.le_refl _)).mono (by have:=hb.size;omega))
  unfold oldC at ho;obtain⟨f1,hf1⟩:∃f1,f1=C.f (p:Int):=⟨_,rfl⟩;obtain⟨f2,hf2⟩:∃f2,f2=C.f ((p:Int)-C.mo):=⟨_,rfl⟩;rw[←hf1] at ho lk1 k1;rw[←hf2] at ho lk2 k2;have w1:IntKind.i64.wrap ((C.hd:Int)-2)=(C.hd:Int)-2:=IntWalk.i64_in _ (by omega);have w2:IntKind.i64.wrap ((C.F.length:Int)-(C.tl:Int))=(C.F.length:Int)-(C.tl:Int):=IntWalk.i64_in _ (by omega);have w3:IntKind.i64.wrap ((p:Int)-C.mo)=(p:Int)-C.mo:=IntWalk.i64_in _ (by omega);obtain⟨ga,ca,hov⟩:∃A c,C.ov=.slice A C.L.length c:=hor.formm;obtain⟨gn,cn,hnv⟩:∃A c,C.nv=.slice A C.F.length c:=hfr.formm;have hrd:∀j:Nat,j<C.L.length→∃g o x,ga=some ⟨g,o,none⟩∧C.L[j]? = some x∧W.cell? ⟨g,o+j*4+2,none⟩=some (.int .i64 (x.tt:Int)):=fun j hj=>by
    obtain⟨x,hx⟩:∃x,C.L[j]? = some x:=⟨_,List.getElem?_eq_getElem hj⟩;rw[hov] at hor;obtain⟨g,o,e,_,hc⟩:=bS de hor hx rfl;exact⟨g,o,x,e,hx,hc 2 _ rfl⟩
  rw[hov] at c1;rw[hnv] at c0;have HS:=Lib.hid (And.intro csub (And.intro hov hS));clear csub hor hfr b2 b6 b7 b8 hf1 hf2 hS hov hnv h;generalize C.L.length=lenL at *;generalize C.F.length=lenF at *;by_cases hA:0<f1∧(((C.L[f1.toNat]?).map Nd.tt).getD 0:Nat)+2≤C.hd
  ·rw[if_pos hA] at ho;simp only[Option.some.injEq,Prod.mk.injEq] at ho;obtain⟨ho1,rfl⟩:=ho;obtain⟨j,rfl⟩:∃j:Nat,f1=(j:Int):=⟨f1.toNat,by omega⟩;rw[Int.toNat_natCast] at ho1 hA;subst ho1;obtain⟨g0,o0,x,rfl,hx,xt2⟩:=hrd j (by have:=k1 hA.1;omega);rw[hx] at hA;have hA2:x.tt+2≤C.hd:=hA.2;have t1:(0:Int)<(j:Int):=hA.1;have t1b:0<j:=by omega
   obtain⟨xt,hxt⟩:∃xt:Int,xt=(x.tt:Int):=⟨_,rfl⟩;rw[←hxt] at xt2;have t2:decide (xt≤(C.hd:Int)-2)=true:=decide_eq_true (by omega);have u1:(j:Int)<(lenL:Int):=by have:=k1 hA.1;omega
   have u2:(0:Int)≤(j:Int):=by omega
   clear lk2 k1 k2 hrd hA hA2 hx hxt;go_enter Tryz.func77,Tryz.ntmps77;go_wp2_with fail;go_quiet (fail);go_wp2_with fail;go_quiet (fail);go_wp2_with (
     (go_at_call 99;with_reducible refine(HS.out.1 _ HS.out.2.2 _ (ae (Below.refl _ W) _) _ _ HS.out.2.1).mono ?_
      rintro e w2 ⟨v,rfl,hown,hb⟩;have H2:=Lib.hid (And.intro hown ((ae (Below.refl _ W) _).trans hb));clear hown hb))
   refine bodyPost_ret (v:=.tuple #[v,.int .i64 0,.bool true]) (by simp[results,Tryz.results77,go_sem]) rfl ?_;exact⟨⟨_,rfl,H2.out.1⟩,H2.out.2⟩
  rw[if_neg hA] at ho;have key:(f1≤0)∨(∃(j g0 o0:Nat) (xt:Int),f1=(j:Int)∧0<j∧(j:Int)<(lenL:Int)∧ga=some ⟨g0,o0,none⟩∧W.cell? ⟨g0,o0+j*4+2,none⟩=some (.int .i64 xt)∧¬xt≤(C.hd:Int)-2):=by
    by_cases h0:0<f1
    ·obtain⟨j,rfl⟩:∃j:Nat,f1=(j:Int):=⟨f1.toNat,by omega⟩;obtain⟨g0,o0,x,e1,hx,e2⟩:=hrd j (by have:=k1 h0;omega);refine .inr ⟨j,g0,o0,(x.tt:Int),rfl,by omega,k1 h0,e1,e2,fun h1=>hA ⟨h0,?_⟩⟩;rw[Int.toNat_natCast,hx];show x.tt+2≤C.hd;omega
    ·exact .inl (by omega)
  by_cases hB:p+C.tl<lenF
  ·rw[if_pos hB] at ho;cases ho
  rw[if_neg hB] at ho;by_cases hD:0<f2
  ·rw[if_pos hD] at ho;simp only[Option.some.injEq,Prod.mk.injEq] at ho;obtain⟨ho1,rfl⟩:=ho;obtain⟨j2,rfl⟩:∃j:Nat,f2=(j:Int):=⟨f2.toNat,by omega⟩;rw[Int.toNat_natCast] at ho1;subst ho1;have t3:decide ((p:Int)<(lenF:Int)-(C.tl:Int))=false:=decide_eq_false (by omega);have t4:(0:Int)<(j2:Int):=hD;clear k1 k2 hrd hA hB hD;rcases key with h0|⟨j,g0,o0,xt,rfl,j0,j1,rfl,xt2,h0⟩
   case' inl=>
     have t1:decide (0<f1)=false:=decide_eq_false (by omega);clear h0
   case' inr=>
     have t1:(0:Int)<(j:Int):=by omega
     have t2:decide (xt≤(C.hd:Int)-2)=false:=decide_eq_false h0;have u2:(0:Int)≤(j:Int):=by omega
     clear h0
   all_goals (
     go_enter Tryz.func77,Tryz.ntmps77;go_wp2_with fail;go_quiet (fail);go_wp2_with fail;go_quiet (fail);go_wp2_with fail;go_quiet (fail);go_wp2_with fail;go_quiet (fail);go_wp2_with fail)
   ·clear lk1 lk2 c0 c3 c4 c5 c7
    go_region_held3 (fun w'=>w'.cell? ⟨g,1,none⟩=some (.slice (some ⟨g0,o0,none⟩) lenL ca)∧w'.cell? ⟨g,2,none⟩=some (.int .i64 C.mo))
     (first|with_reducible exact⟨c1,c2⟩|exact⟨c1,c2⟩)
     (
      (go_at_call 99;with_reducible refine(HS.out.1 _ HS.out.2.2 _ (ae (Below.refl _ W) _) _ _ HS.out.2.1).mono ?_
       rintro e w2 ⟨v,rfl,hown,hb⟩;have H2:=Lib.hid (And.intro hown ((ae (Below.refl _ W) _).trans hb));have c1:=wj hb c1;have c2:=wj hb c2;clear hown hb))
    go_wp2_with fail;refine bodyPost_ret (v:=.tuple #[v,.int .i64 C.mo,.bool true]) (by simp[results,Tryz.results77,go_sem]) rfl ?_;exact⟨⟨_,rfl,H2.out.1⟩,H2.out.2⟩
   ·clear lk1 lk2 c0 c3 c4 c5 c7
    go_region_held3 (fun w'=>w'.cell? ⟨g,1,none⟩=some (.slice ga lenL ca)∧w'.cell? ⟨g,2,none⟩=some (.int .i64 C.mo))
     (first|with_reducible exact⟨c1,c2⟩|exact⟨c1,c2⟩)
     (
      (go_at_call 99;with_reducible refine(HS.out.1 _ HS.out.2.2 _ (ae (Below.refl _ W) _) _ _ HS.out.2.1).mono ?_
       rintro e w2 ⟨v,rfl,hown,hb⟩;have H2:=Lib.hid (And.intro hown ((ae (Below.refl _ W) _).trans hb));have c1:=wj hb c1;have c2:=wj hb c2;clear hown hb))
    go_wp2_with fail;refine bodyPost_ret (v:=.tuple #[v,.int .i64 C.mo,.bool true]) (by simp[results,Tryz.results77,go_sem]) rfl ?_;exact⟨⟨_,rfl,H2.out.1⟩,H2.out.2⟩
  ·rw[if_neg hD] at ho;cases ho
set_option maxHeartbeats 4000000 in
theorem older_no {g:Nat} {C:Uc} {r:List Nd} {p kp:Nat} {lv:Value} {W:World} (B:Ub C) (h:Ul g C r p kp lv W) (hp:p≤C.F.length) (ho:oldC C p=none) :
    Calls Tryz.prog 77 #[.pointer (some ⟨g,0,none⟩)] W fun e w'=>e=.returned (.tuple #[.slice none 0 0,.int .i64 0,.bool false])∧Below W.heap.size W w':=by
  obtain⟨b1,b2,b3,b4,b5,b6,b7,b8⟩:=B;obtain⟨c0,c1,c2,c3,c4,c5,_,c7,_⟩:=h.cells;have hor:=h.o;have hfr:=h.f;have gl:=h.w.lt;have lk1:=fun n=>(h.m.drewN n).look (x:=(p:Int)) (by omega) (by omega)
  have lk2:=fun n=>(h.m.drewN n).look (x:=(p:Int)-C.mo) (by omega) (by omega)
  have k1:=b8 (p:Int);have k2:=b8 ((p:Int)-C.mo);unfold oldC at ho;obtain⟨f1,hf1⟩:∃f1,f1=C.f (p:Int):=⟨_,rfl⟩;obtain⟨f2,hf2⟩:∃f2,f2=C.f ((p:Int)-C.mo):=⟨_,rfl⟩;rw[←hf1] at ho lk1 k1;rw[←hf2] at ho lk2 k2;have w1:IntKind.i64.wrap ((C.hd:Int)-2)=(C.hd:Int)-2:=IntWalk.i64_in _ (by omega);have w2:IntKind.i64.wrap ((C.F.length:Int)-(C.tl:Int))=(C.F.length:Int)-(C.tl:Int):=IntWalk.i64_in _ (by omega);have w3:IntKind.i64.wrap ((p:Int)-C.mo)=(p:Int)-C.mo:=IntWalk.i64_in _ (by omega);obtain⟨ga,ca,hov⟩:∃A c,C.ov=.slice A C.L.length c:=hor.formm;obtain⟨gn,cn,hnv⟩:∃A c,C.nv=.slice A C.F.length c:=hfr.formm;have hrd:∀j:Nat,j<C.L.length→∃g o x,ga=some ⟨g,o,none⟩∧C.L[j]? = some x∧W.cell? ⟨g,o+j*4+2,none⟩=some (.int .i64 (x.tt:Int)):=fun j hj=>by
    obtain⟨x,hx⟩:∃x,C.L[j]? = some x:=⟨_,List.getElem?_eq_getElem hj⟩;rw[hov] at hor;obtain⟨g,o,e,_,hc⟩:=bS de hor hx rfl;exact⟨g,o,x,e,hx,hc 2 _ rfl⟩
  rw[hov] at c1;rw[hnv] at c0;clear hor hfr b2 b6 b7 b8 hf1 hf2 hov hnv h;generalize C.L.length=lenL at *;generalize C.F.length=lenF at *;have hA:¬(0<f1∧(((C.L[f1.toNat]?).map Nd.tt).getD 0:Nat)+2≤C.hd):=fun hA=>by rw[if_pos hA] at ho;cases ho
  rw[if_neg hA] at ho;have key:(f1≤0)∨(∃(j g0 o0:Nat) (xt:Int),f1=(j:Int)∧0<j∧(j:Int)<(lenL:Int)∧ga=some ⟨g0,o0,none⟩∧W.cell? ⟨g0,o0+j*4+2,none⟩=some (.int .i64 xt)∧¬xt≤(C.hd:Int)-2):=by
    by_cases h0:0<f1
    ·obtain⟨j,rfl⟩:∃j:Nat,f1=(j:Int):=⟨f1.toNat,by omega⟩;obtain⟨g0,o0,x,e1,hx,e2⟩:=hrd j (by have:=k1 h0;omega);refine .inr ⟨j,g0,o0,(x.tt:Int),rfl,by omega,k1 h0,e1,e2,fun h1=>hA ⟨h0,?_⟩⟩;rw[Int.toNat_natCast,hx];show x.tt+2≤C.hd;omega
    ·exact .inl (by omega)
  by_cases hB:p+C.tl<lenF
  ·have t3:(p:Int)<(lenF:Int)-(C.tl:Int):=by omega
   clear k1 k2 hrd hA hB lk2 ho;rcases key with h0|⟨j,g0,o0,xt,rfl,j0,j1,rfl,xt2,h0⟩
   case' inl=>
     have t1:decide (0<f1)=false:=decide_eq_false (by omega);clear h0
   case' inr=>
     have t1:(0:Int)<(j:Int):=by omega
     have t2:decide (xt≤(C.hd:Int)-2)=false:=decide_eq_false h0;have u2:(0:Int)≤(j:Int):=by omega
     clear h0
   all_goals (
     go_enter Tryz.func77,Tryz.ntmps77;go_wp2_with fail;go_quiet (fail);go_wp2_with fail;go_quiet (fail);go_wp2_with fail;go_quiet (fail);go_wp2_with fail;refine bodyPost_ret (v:=.tuple #[.slice none 0 0,.int .i64 0,.bool false]) (by simp[results,Tryz.results77,go_sem]) rfl ?_
     first
       | exact⟨rfl,ae (Below.refl _ W) _⟩
       | exact⟨rfl,ae (ae (ae (Below.refl _ W) _) _) _⟩
       | exact⟨rfl,ae (ae (ae (ae (Below.refl _ W) _) _) _) _⟩)
  ·rw[if_neg hB] at ho;have hD:¬0<f2:=fun hD=>by rw[if_pos hD] at ho;cases ho
   have t3:decide ((p:Int)<(lenF:Int)-(C.tl:Int))=false:=decide_eq_false (by omega);have t4:decide (0<f2)=false:=decide_eq_false hD;clear k1 k2 hrd hA hB hD ho;rcases key with h0|⟨j,g0,o0,xt,rfl,j0,j1,rfl,xt2,h0⟩
   case' inl=>
     have t1:decide (0<f1)=false:=decide_eq_false (by omega);clear h0
   case' inr=>
     have t1:(0:Int)<(j:Int):=by omega
     have t2:decide (xt≤(C.hd:Int)-2)=false:=decide_eq_false h0;have u2:(0:Int)≤(j:Int):=by omega
     clear h0
   all_goals (
     go_enter Tryz.func77,Tryz.ntmps77;go_wp2_with fail;go_quiet (fail);go_wp2_with fail;go_quiet (fail);go_wp2_with fail;go_quiet (fail);go_wp2_with fail;go_quiet (fail);go_wp2_with fail;refine bodyPost_ret (v:=.tuple #[.slice none 0 0,.int .i64 0,.bool false]) (by simp[results,Tryz.results77,go_sem]) rfl ?_
     first
       | exact⟨rfl,ae (Below.refl _ W) _⟩
       | exact⟨rfl,ae (ae (ae (Below.refl _ W) _) _) _⟩
       | exact⟨rfl,ae (ae (ae (ae (Below.refl _ W) _) _) _) _⟩)
end Go.Proofs.YtfagdpfgifgnoaaGreatDoor
namespace Go.Proofs.YtfagdpfgifgnoaaGreatDoor
set_option linter.unusedVariables false
set_option linter.unusedSimpArgs false
set_option maxRecDepth 100000
theorem kx_none {F:List Lf} {i:Nat} (h:F.length≤i):kx F i=none:=by unfold kx;rw[List.getElem?_eq_none h];rfl
theorem mpN_id {k:Nat} {x:Nd} (h : -1≤x.up):om k 0 (-1) x=⟨x.kd,x.fr+k,x.tt+k,x.up⟩:=by
  unfold om wA;congr 1;split<;>omega
theorem cmd_two {F G:List Lf} {k a b B:Nat} {u:Int} (E:Gx F G k a B) {s t:Ps} (p:s.p=t.p+k) (d:s.deep=t.deep) (u1:s.up=wA b u t.up) (l:s.l.length=t.l.length+b) (n:s.p≤F.length) (hpt:t.p≤G.length) (ha:a≤t.p) :
    T F G k b B u s t (an 3 (bv F (iG F)) s) (an 3 (bv G (iG G)) t):=
  wT (fuA:=F.length+1) (fuB:=G.length+1) E (cy F _) (cy G _) (fun s t h=>wQ E _ _ s t h) ⟨p,d,u1,l,n,hpt,ha,by omega,by omega⟩
theorem cmd_same {F G:List Lf} {k a p B:Nat} (E:Gx F G k a B) (ha:a≤p) (hG:p≤G.length) (hF:p+k≤F.length) (hB:(cK G p).p+2≤B) :
    (cK F (p+k)).l=(cK G p).l.map (om k 0 (-1))∧(cK F (p+k)).p=(cK G p).p+k:=by
  have x:=cmd_two (b:=0) (u := -1) E (s:=eI (p+k)) (t:=eI p) rfl rfl (by unfold wA;rfl) rfl hF hG ha hB;obtain⟨m,h1,h2⟩:=x.l;have h3:(cK G p).l=([]:List Nd)++m:=h1;have h4:(cK F (p+k)).l=([]:List Nd)++m.map (om k 0 (-1)):=h2;rw[h3,h4];exact⟨rfl,x.p⟩
def MvR (R S:List Nd) (by_:Int):Prop:=R.length=S.length∧∀(j:Nat) (x y:Nd),R[j]? = some x→S[j]? = some y→y.kd=x.kd∧(y.fr:Int)=(x.fr:Int)+by_∧(y.tt:Int)=(x.tt:Int)+by_∧y.up=x.up
theorem cmd_up {F:List Lf} {p:Nat} (hp:p≤F.length):∀x∈(cK F p).l, -1≤x.up:=fun x hx=>by
  obtain⟨c,hc1,hc2⟩:=qy F hp;rw[hc1] at hx;rcases List.mem_cons.1 hx with rfl|hx
  ·exact Int.le_refl _
  ·have:=hc2 x hx;omega
theorem mv_far {F G:List Lf} {k a p B:Nat} (E:Gx F G k a B) (ha:a≤p) (hG:p≤G.length) (hF:p+k≤F.length) (hB:(cK G p).p+2≤B):MvR (cK G p).l (cK F (p+k)).l k∧(cK F (p+k)).p=(cK G p).p+k:=by
  obtain⟨h1,h2⟩:=cmd_same E ha hG hF hB;refine⟨⟨by rw[h1];simp,fun j x y hx hy=>?_⟩,h2⟩;rw[h1,List.getElem?_map,hx] at hy;have hy:om k 0 (-1) x=y:=by simpa using hy
  rw[←hy,mpN_id (cmd_up hG x (List.mem_of_getElem? hx))];refine⟨rfl,?_,?_,rfl⟩
  ·show ((x.fr+k:Nat):Int)=_;omega
  ·show ((x.tt+k:Nat):Int)=_;omega
theorem mv_near {F G:List Lf} {k a p B:Nat} (E:Gx F G k a B) (ha:a≤p) (hG:p≤G.length) (hF:p+k≤F.length) (hB:(cK G p).p+2≤B):MvR (cK F (p+k)).l (cK G p).l (-(k:Int))∧(cK F (p+k)).p=(cK G p).p+k:=by
  obtain⟨⟨h1,h2⟩,h3⟩:=mv_far E ha hG hF hB;refine⟨⟨h1.symm,fun j x y hx hy=>?_⟩,h3⟩
  have:=h2 j y x hy hx
  refine⟨this.1.symm,by omega,by omega,this.2.2.2.symm⟩
theorem old_head {F G:List Lf} {h p:Nat} (hA:∀i,i<h→kx F i=kx G i) (hF:p≤F.length) (hG:p≤G.length) (hto:(cK G p).p+2≤h):MvR (cK G p).l (cK F p).l 0∧(cK F p).p=(cK G p).p:=by
  have E:Gx F G 0 0 h:=fun i _ hi=>hA i hi
  obtain⟨h1,h2⟩:=mv_far (k:=0) (p:=p) E (Nat.zero_le _) hG (by omega) hto;rw[Nat.add_zero] at h1 h2;rw[show ((0:Nat):Int)=0 from rfl] at h1;exact⟨h1,h2⟩
theorem old_tail {F G:List Lf} {t p q:Nat} (h1:t≤G.length) (h2:t≤F.length) (hT:∀j,j<t→kx G (G.length-1-j)=kx F (F.length-1-j)) (hq:(q:Int)=(p:Int)-((F.length:Int)-(G.length:Int))) (hp:F.length-t≤p) (hpF:p≤F.length) :
    MvR (cK G q).l (cK F p).l ((F.length:Int)-(G.length:Int)):=by
  rcases Nat.le_total G.length F.length with hl|hl
  ·obtain⟨k,hk⟩:∃k,F.length=G.length+k:=⟨F.length-G.length,by omega⟩;have E:Gx F G k (G.length-t) ((cK G q).p+2):=fun i hi _=>by
     rcases Nat.lt_or_ge i G.length with h3|h3
     ·have:=hT (G.length-1-i) (by omega)
      rw[show G.length-1-(G.length-1-i)=i by omega,show F.length-1-(G.length-1-i)=i+k by omega] at this;exact this.symm
     ·rw[kx_none h3,kx_none (by omega)]
   have:=(mv_far E (p:=q) (by omega) (by omega) (by omega) (Nat.le_refl _)).1
   rw[show q+k=p by omega] at this
   rwa [show (F.length:Int)-(G.length:Int)=(k:Int) by omega]
  ·obtain⟨k,hk⟩:∃k,G.length=F.length+k:=⟨G.length-F.length,by omega⟩;have E:Gx G F k (F.length-t) ((cK F p).p+2):=fun i hi _=>by
     rcases Nat.lt_or_ge i F.length with h3|h3
     ·have:=hT (F.length-1-i) (by omega)
      rw[show F.length-1-(F.length-1-i)=i by omega,show G.length-1-(F.length-1-i)=i+k by omega] at this;exact this
     ·rw[kx_none h3,kx_none (by omega)]
   have:=(mv_near E (p:=p) hp hpF (by omega) (Nat.le_refl _)).1
   rw[show p+k=q by omega] at this
   rwa [show (F.length:Int)-(G.length:Int) = -(k:Int) by omega]
theorem blk_list {F:List Lf} {u b:Nat} {m:List Nd} {cs:List Nat} (h:sL F u b m cs) (hu:1≤u∧u<b):∀(pre post:List Nd),pre.length=b→(∃y,(pre++(m++post))[u]? = some y∧y.kd=2∧y.up=0) →
    (∀(v:Nat) (y:Nd),(pre++(m++post))[v]? = some y→y.kd=2→y.up=0→v<b∨b+m.length≤v)→((List.range' b m.length).filter (mq (pre++(m++post)))).map (sI (pre++(m++post)))=cs:=by
  induction h with
  | nil b=>intro pre post _ _ _;rfl
  | cons b p m cs hp h ih=>
    intro pre post hpre hy hno;obtain⟨c,hc1,hc2⟩:=qy F hp;have hlen:((cK F p).l.map (om 0 b (u:Int))).length=c.length+1:=by rw[List.length_map,hc1];rfl
    have e:pre++((cK F p).l.map (om 0 b (u:Int))++m++post)=(pre++(cK F p).l.map (om 0 b (u:Int)))++(m++post):=by simp
    have hr:List.range' b ((cK F p).l.map (om 0 b (u:Int))++m).length=(b::List.range' (b+1) c.length)++List.range' (b+(c.length+1)) m.length:=by
      rw[List.length_append,hlen,←List.range'_append_1,List.range'_succ]
    have ih2:=ih (by omega) (pre++(cK F p).l.map (om 0 b (u:Int))) post (by rw[List.length_append,hlen,hpre,hc1];rfl) (by rw[←e];exact hy) (fun v y h1 h2 h3=>by
      rw[←e] at h1
      have:=hno v y h1 h2 h3
      rw[List.length_append,hlen] at this;have hcl:(cK F p).l.length=c.length+1:=by rw[hc1];rfl
      omega)
    rw[←e] at ih2;rw[hr,List.filter_append,List.map_append];have hcl:(cK F p).l.length=c.length+1:=by rw[hc1];rfl
    rw[hcl] at ih2;rw[ih2];have hrow:∀(j:Nat) (x:Nd),(cK F p).l[j]? = some x→(pre++((cK F p).l.map (om 0 b (u:Int))++m++post))[b+j]? = some (om 0 b (u:Int) x):=fun j x hx=>by
      have hj:=(List.getElem?_eq_some_iff.1 hx).1;rw[e,List.append_assoc,List.getElem?_append_right (by omega),hpre,Nat.add_sub_cancel_left,List.getElem?_append_left (by rw[hlen];omega),List.getElem?_map,hx];rfl
    generalize pre++((cK F p).l.map (om 0 b (u:Int))++m++post)=L at *;have hb:=hrow 0 _ (by rw[hc1];rfl);rw[Nat.add_zero] at hb;have hum:wA b (u:Int) (-1)=(u:Int):=by unfold wA;rw[if_pos (by decide)]
    have ht:mq L b=true:=by
      obtain⟨y,h1,h2,h3⟩:=hy;have hul:=(List.getElem?_eq_some_iff.1 h1).1;rw[AD hb];show ((3:Nat)==3&&decide (1≤wA b (u:Int) (-1))&&decide (wA b (u:Int) (-1)<(L.length:Int))&&sO L (om 0 b (u:Int) ⟨3,p,(cK F p).p, -1⟩))=true;rw[hum];have hX:sO L (om 0 b (u:Int) ⟨3,p,(cK F p).p, -1⟩)=true:=by
        unfold sO;rw[show (om 0 b (u:Int) ⟨3,p,(cK F p).p, -1⟩).up=(u:Int) from hum,Int.toNat_natCast,h1];simp only[h2,h3];rfl
      rw[hX,decide_eq_true (by omega),decide_eq_true (by omega)];rfl
    have hnil:(List.range' (b+1) c.length).filter (mq L)=[]:=by
      rw[List.filter_eq_nil_iff];intro i hi;rw[List.mem_range'_1] at hi;obtain⟨j,rfl⟩:∃j,i=b+(j+1):=⟨i-b-1,by omega⟩;obtain⟨x,hx⟩:∃x,c[j]? = some x:=⟨_,List.getElem?_eq_getElem (by omega)⟩;have hxl:=hrow (j+1) x (by rw[hc1,List.getElem?_cons_succ];exact hx);have hx0:=hc2 x (List.mem_of_getElem? hx);intro hT;rw[AD hxl] at hT;simp only[Bool.and_eq_true] at hT;have hX:=hT.2;unfold sO at hX;have hup:(om 0 b (u:Int) x).up=x.up+(b:Int):=by show wA b (u:Int) x.up=_;unfold wA;rw[if_neg (by omega)]
      rw[hup] at hX;split at hX
      ·rename_i z hz;simp only[Bool.and_eq_true,beq_iff_eq] at hX
       have:=hno _ z hz hX.1 hX.2
       rw[List.length_append,hlen] at this;omega
      ·cases hX
    rw[List.filter_cons,if_pos ht,hnil];show sI L b::cs=p::cs;unfold sI;rw[hb];rfl
theorem prg_list {F:List Lf} {b:Nat} {r:List Nd} {cs:List Nat} (h:nW F b r cs) (hb:1≤b):∀(pre:List Nd),pre.length=b→((List.range' b r.length).filter (mq (pre++r))).map (sI (pre++r))=cs:=by
  induction h with
  | nil b=>intro pre _;rfl
  | err b f t r cs h ih=>
    intro pre hpre;have e:pre++⟨17,f,t,0⟩::r=(pre++[⟨17,f,t,0⟩])++r:=by simp
    have ih2:=ih (by omega) (pre++[⟨17,f,t,0⟩]) (by simp[hpre]);rw[←e] at ih2;have hx:(pre++⟨17,f,t,0⟩::r)[b]? = some ⟨17,f,t,0⟩:=by rw[List.getElem?_append_right (by omega),hpre,Nat.sub_self];rfl
    rw[List.length_cons,List.range'_succ,List.filter_cons,if_neg (by rw[AD hx];simp),ih2]
  | lst b f t m r cs ds hm h ih=>
    intro pre hpre;have e:pre++⟨2,f,t,0⟩::(m++r)=(pre++⟨2,f,t,0⟩::m)++r:=by simp
    have e2:pre++⟨2,f,t,0⟩::(m++r)=(pre++[⟨2,f,t,0⟩])++(m++r):=by simp
    have hl:(pre++[(⟨2,f,t,0⟩:Nd)]).length=b+1:=by simp[hpre]
    have hup:=Eq hm ⟨hb,by omega⟩;have ih2:=ih (by omega) (pre++⟨2,f,t,0⟩::m) (by simp[hpre];omega);rw[←e] at ih2;have hx:(pre++⟨2,f,t,0⟩::(m++r))[b]? = some ⟨2,f,t,0⟩:=by rw[List.getElem?_append_right (by omega),hpre,Nat.sub_self];rfl
    have h1:=blk_list hm ⟨hb,by omega⟩ (pre++[⟨2,f,t,0⟩]) r hl (by rw[←e2];exact⟨_,hx,rfl,rfl⟩) (fun v y h1 h2 h4=>by
      rcases Nat.lt_or_ge v (b+1) with h5|h5
      ·exact .inl h5
      ·rcases Nat.lt_or_ge v (b+1+m.length) with h6|h6
       ·exfalso;rw[List.getElem?_append_right (by omega),List.getElem?_append_left (by omega)] at h1
        have:=hup y (List.mem_of_getElem? h1)
        omega
       ·exact .inr h6)
    rw[←e2] at h1;rw[List.length_cons,List.range'_succ,List.filter_cons,if_neg (by rw[AD hx];simp),List.length_append,←List.range'_append_1,List.filter_append,List.map_append,h1,ih2]
theorem parse_list {F:List Lf} {r:List Nd} {cs:List Nat} (h:nW F 1 r cs) (hr:(cE F).l=⟨1,0,F.length, -1⟩::r):(jL (cE F).l (cE F).l.length).map (sI (cE F).l)=cs:=by
  have h1:=prg_list h (Nat.le_refl _) [⟨1,0,F.length, -1⟩] rfl;rw[List.singleton_append,←hr] at h1;have h0:(cE F).l[0]? = some ⟨1,0,F.length, -1⟩:=by rw[hr];rfl
  have hlen:(cE F).l.length=r.length+1:=by rw[hr];rfl
  unfold jL;rw[List.range_eq_range',hlen,List.range'_succ,List.filter_cons,if_neg (by rw[AD h0];simp)];exact h1
end Go.Proofs.YtfagdpfgifgnoaaGreatDoor
namespace Go.Proofs.YtfagdpfgifgnoaaGreatDoor
open Go.RowKit
set_option linter.unusedVariables false
set_option linter.unusedSimpArgs false
set_option maxRecDepth 100000
structure Uk (C:Uc) (G:List Lf):Prop where
  hfF:FB C.F
  hfG:FB G
  L:C.L=(cE G).l
  f:C.f=Am (cE G).l (jL (cE G).l (cE G).l.length)
  mo:C.mo=(C.F.length:Int)-(G.length:Int)
  hd:C.hd=hdL G C.F
  tl:C.tl=tlL (G.drop C.hd) (C.F.drop C.hd)
theorem row_tt {L:List Nd} {n:Nat} (h:mj L) (h0:L[0]? = some ⟨1,0,n, -1⟩):∀(i:Nat) (x:Nd),L[i]? = some x→x.tt≤n∧x.fr≤n∧x.up<(i:Int) ∧ -1≤x.up:=by
  intro i
  induction i using Nat.strongRecOn with
  | _ i ih=>
    intro x hx;have hn:=h i x hx;rcases Nat.eq_zero_or_pos i with h1|h1
    ·subst h1;rw[h0] at hx
     cases hx;exact⟨Nat.le_refl _,Nat.zero_le _,by show (-1:Int)<_;omega,Int.le_refl _⟩
    ·obtain⟨u,m,e1,e2,_,e3,_,e4,_⟩:=hn.u h1
     have:=ih u e2 m e3
     have:=hn.le
     exact⟨by omega,by omega,by omega,by omega⟩
theorem par_len (G:List Lf):(cE G).l.length≤16*G.length+5:=by
  have h:=(yW G).1;have h1:=h.b;have h2:=(yW G).2;have e:(eI 0).l.length=0:=rfl;have e2:(eI 0).p=0:=rfl;omega
theorem par_row (G:List Lf):∀(i:Nat) (x:Nd),(cE G).l[i]? = some x→x.tt≤G.length∧x.fr≤G.length∧x.up<(i:Int) ∧ -1≤x.up:=by
  obtain⟨h1,r,h2⟩:=Ey G;exact row_tt h1 (by rw[h2];rfl)
theorem tt_eq (L:List Nd) (i:Nat):((L[i]?).map Nd.tt).getD 0=Ay L i:=by
  unfold Ay
  cases L[i]? <;> rfl
theorem uk_tm {C:Uc} {G:List Lf} (h:Uk C G) {x:Int} (h0:0<C.f x):∃(i p:Nat),C.f x=(i:Int)∧x=(p:Int)∧i<C.L.length∧De G C.L i p∧Ay C.L i=(cK G p).p:=by
  rw[h.f] at h0 ⊢;rw[h.L];exact F8 G h0
theorem De.sub {F:List Lf} {L:List Nd} {i p:Nat} (h:De F L i p):SubR L (cK F p).l i:=⟨h.le,h.pos,h.row,h.nxt⟩
theorem mv_hg {G:List Lf} {S T:List Nd} {z:Int} {i q u b:Nat} (hs:De G (cE G).l i q) (e:S=(cK G q).l) (h:MvR S T z) (hb:G.length≤900):HgR S (T.map (om 0 b (u:Int))) z u b:=by
  refine⟨by rw[List.length_map];exact h.1.symm,by rw[e];exact hs.pos,fun j x y hx hy=>?_⟩;rw[List.getElem?_map] at hy;obtain⟨t,ht,rfl⟩:=Option.map_eq_some_iff.1 hy;obtain⟨h1,h2,h3,h4⟩:=h.2 j x t hx ht;rw[e] at hx;obtain⟨y,e1,_,e3,e4,e5,e6⟩:=hs.row j x hx;have hy:=par_row G _ y e1;have hl:=par_len G;have hil:=(List.getElem?_eq_some_iff.1 e1).1;refine⟨h1,h2,h3,fun hj=>?_,fun hj=>?_,by omega,by omega,?_,?_⟩
  ·show wA b u t.up=_;unfold wA;rw[h4,e6 hj,if_pos (by decide)]
  ·show wA b u t.up=_
   have:=(e5 hj).1
   unfold wA;rw[h4,if_neg (by omega)]
  ·rcases Nat.eq_zero_or_pos j with hj|hj
   ·have:=e6 hj;omega
   ·have:=e5 hj;omega
  ·rcases Nat.eq_zero_or_pos j with hj|hj
   ·have:=e6 hj;omega
   ·have:=e5 hj;omega
theorem uk_ub {C:Uc} {G:List Lf} (h:Uk C G):Ub C:=by
  have hG:=h.hfG.n;have hF:=h.hfF.n;have hmo:=h.mo;have hl:=par_len G;have hhd:C.hd≤G.length∧C.hd≤C.F.length:=by rw[h.hd];exact hdL_le _ _
  have htl:=tlL_le (G.drop C.hd) (C.F.drop C.hd);rw[←h.tl,List.length_drop,List.length_drop] at htl;have hrow:∀x∈C.L,x.tt≤900 ∧ -1≤x.up∧x.up≤100000:=fun x hx=>by
    rw[h.L] at hx;obtain⟨i,hi⟩:=List.getElem?_of_mem hx;have h1:=par_row G i x hi;have h2:=(List.getElem?_eq_some_iff.1 hi).1;omega
  refine⟨hF,by rw[h.L];omega,by omega,by omega,by omega,fun x hx=>(hrow x hx).2,fun x hx=>by have:=(hrow x hx).1;omega,fun x hx=>?_⟩;obtain⟨i,p,e1,_,e3,_⟩:=uk_tm h hx;omega
theorem old_mv {C:Uc} {G:List Lf} (h:Uk C G) {p i:Nat} {z:Int} (hp:p≤C.F.length) (ho:oldC C p=some (i,z)):∃S,SubR C.L S i∧(-900≤z∧z≤900)∧∀u b:Nat,HgR S ((cK C.F p).l.map (om 0 b (u:Int))) z u b:=by
  have hG:=h.hfG.n;have hF:=h.hfF.n;have hmo:=h.mo;have hhd:C.hd≤G.length∧C.hd≤C.F.length:=by rw[h.hd];exact hdL_le _ _
  unfold oldC at ho;rw[tt_eq] at ho;split at ho
  ·rename_i hc;obtain⟨i',q,e1,e2,e3,e4,e5⟩:=uk_tm h hc.1;simp only[Option.some.injEq,Prod.mk.injEq] at ho;obtain⟨ho1,rfl⟩:=ho;have hi:i'=i:=by rw[←ho1,e1];rfl
   subst hi;have hq:q=p:=by omega
   subst hq;rw[ho1] at hc;have hm:=old_head (F:=C.F) (G:=G) (h:=C.hd) (p:=q) (fun j hj=>(hdL_kx G C.F j (by rw[←h.hd];exact hj)).symm) hp e4.pl (by have:=hc.2;omega);rw[h.L] at e4;exact⟨_,by rw[h.L];exact e4.sub,⟨by omega,by omega⟩,fun u b=>mv_hg e4 rfl hm.1 hG⟩
  ·split at ho
   ·cases ho
   ·rename_i hc2;split at ho
    ·rename_i hc3;obtain⟨i',q,e1,e2,e3,e4,e5⟩:=uk_tm h hc3;simp only[Option.some.injEq,Prod.mk.injEq] at ho;obtain⟨ho1,rfl⟩:=ho;have hi:i'=i:=by rw[←ho1,e1];rfl
     subst hi;have htl:=tlL_le (G.drop C.hd) (C.F.drop C.hd);rw[←h.tl,List.length_drop,List.length_drop] at htl;have hT:=tl_drop G C.F C.hd hhd.1 hhd.2;rw[←h.tl] at hT;have hm:=old_tail (F:=C.F) (G:=G) (t:=C.tl) (p:=p) (q:=q) (by omega) (by omega) hT (by omega) (by omega) hp;rw[←h.mo] at hm;rw[h.L] at e4;exact⟨_,by rw[h.L];exact e4.sub,⟨by omega,by omega⟩,fun u b=>mv_hg e4 rfl hm hG⟩
    ·cases ho
end Go.Proofs.YtfagdpfgifgnoaaGreatDoor
namespace Go.Proofs.YtfagdpfgifgnoaaGreatDoor
open Go.RowKit
set_option linter.unusedVariables false
set_option linter.unusedSimpArgs false
set_option maxRecDepth 100000
theorem own_self {w:World} {B e sz n g c k:Nat} {xs:List Value} (h:w.ownsRow B e sz (.slice (some ⟨g,0,none⟩) n c) k xs):w.ownsRow g e sz (.slice (some ⟨g,0,none⟩) n c) k xs:=by
  refine⟨h.1,?_⟩;rcases h.2 with h2|⟨g',cap,cur,he,hg,r⟩
  ·exact .inl h2
  ·cases he;exact .inr ⟨g,c,cur,rfl,Nat.le_refl _,r⟩
theorem cmd_hd (F:List Lf) {p:Nat} (hp:p≤F.length) (b u:Nat):(((cK F p).l.map (om 0 b (u:Int))).head?.map Nd.tt).getD 0=(cK F p).p:=by
  obtain⟨m,h1,_⟩:=qy F hp;rw[h1];rfl
theorem cmd_sz (F:List Lf) {p:Nat} (hp:p≤F.length):(cK F p).l.length≤16*((cK F p).p-p)+3∧p≤(cK F p).p∧(cK F p).p≤F.length:=by
  have h:=Ef F hp;have h1:=h.b;have h2:=h.N;have h3:=h.p;have e:(eI p).l.length=0:=rfl;have e2:(eI p).p=p:=rfl;omega
theorem Fo.rng {b:Nat} {u:Int} {a c:Nat} {l:List Nd} (h:Fo b u a c l):∀x∈l,x.fr≤c∧x.tt≤c:=by
  induction h with
  | nil _=>intro x hx;cases hx
  | @cons b u a c k x y ks r e1 e2 e3 e4 e5 ih1 ih2=>
    intro q hq;have hyc:=e5.le;rcases List.mem_cons.1 hq with rfl|hq
    ·exact⟨by show x≤c;omega,hyc⟩
    ·rcases List.mem_append.1 hq with hq|hq
     ·have:=ih1 q hq;omega
     ·exact ih2 q hq
theorem cmd_hg (F:List Lf) {p:Nat} (hp:p≤F.length) (hF:F.length≤900) (u b:Nat):HgR (cK F p).l ((cK F p).l.map (om 0 b (u:Int))) 0 u b:=by
  obtain⟨m,h1,h2⟩:=qy F hp;have hs:=cmd_sz F hp;have hm:(cK F p).l.length=m.length+1:=by rw[h1];rfl
  have hf:∀x∈(cK F p).l,x.fr≤100000∧x.tt≤100000:=fun x hx=>by
    obtain⟨m',e1,e2⟩:=(Ef F hp).f;have e1:(cK F p).l=m':=e1;rw[e1] at hx
    have:=e2.rng x hx
    omega
  refine⟨List.length_map _,by omega,fun j x y hx hy=>?_⟩;rw[List.getElem?_map,hx] at hy;have hy:om 0 b (u:Int) x=y:=by simpa using hy
  rw[←hy];have hxf:=hf x (List.mem_of_getElem? hx);have hjl:=(List.getElem?_eq_some_iff.1 hx).1;refine⟨rfl,by show ((x.fr+0:Nat):Int)=_;omega,by show ((x.tt+0:Nat):Int)=_;omega,fun hj=>?_,fun hj=>?_,hxf.1,hxf.2,?_,?_⟩
  ·subst hj;rw[h1] at hx
   have:(⟨3,p,(cK F p).p, -1⟩:Nd)=x:=by simpa using hx
   rw[←this];show wA b u (-1)=_;unfold wA;rw[if_pos (by decide)]
  ·obtain⟨j,rfl⟩:∃k,j=k+1:=⟨j-1,by omega⟩;rw[h1,List.getElem?_cons_succ] at hx
   have:=(h2 x (List.mem_of_getElem? hx)).1
   show wA b u x.up=_;unfold wA;rw[if_neg (by omega)]
  ·have:=cmd_up hp x (List.mem_of_getElem? hx);omega
  ·rw[h1] at hx;rcases List.mem_cons.1 (List.mem_of_getElem? hx) with rfl|hx
   ·show (-1:Int)≤_;omega
   ·have:=(h2 x hx).2;omega
set_option maxHeartbeats 4000000 in
theorem ucommand_m {g:Nat} {C:Uc} {G:List Lf} {r:List Nd} {p kp:Nat} {W:World} (X:Uk C G) (u:Nat) (h:Um g C r p kp W) (hp:p<C.F.length) (hb:bH C.F (eI p)=true) (hr:r.length≤16*p+2) (hk:kp≤100000) :
    Calls Tryz.prog 54 #[.pointer (some ⟨g,0,none⟩),.int .i64 (u:Int)] W fun e w'=>e=.returned (.tuple #[])∧Um g C (nD C.F r u p) (cK C.F p).p (kp+(oldC C p).toList.length) w'∧FuM g W w':=by
  obtain⟨lv,h⟩:=h;have hpl:=Nat.le_of_lt hp;have v8:IntKind.i64.wrap ((kp:Int)+1)=(kp:Int)+1:=IntWalk.i64_in _ (by omega);have hs:=cmd_sz C.F hpl;have hF:=X.hfF.n;have gl:=h.w.lt;have lvk:∀k,lv.ownBlock=some k→k<W.heap.size:=fun k hk=>(h.r.lt k hk).2
  cases ho:oldC C p with
  | some a=>
    obtain⟨i,z⟩:=a;obtain⟨S,hS,hz,hH⟩:=old_mv X hpl ho;have hSl:S.length=(cK C.F p).l.length:=by have:=(hH 0 0).len;rw[List.length_map] at this;exact this.symm
    have hSp:=(hH 0 0).pos;have c1:=older_yes (uk_ub X) h hpl ho hS;have c2:∀(W2:World) (ks cs:Nat),Below W.heap.size W W2→W2.ownsRow W.heap.size 49 4 (.slice (some ⟨ks,0,none⟩) S.length cs) S.length (dt S)→Calls Tryz.prog 78 #[.pointer (some ⟨g,0,none⟩),.int .i64 (u:Int),.slice (some ⟨ks,0,none⟩) S.length cs,.int .i64 z] W2 fun e w'=>e=.returned (.tuple #[])∧Um g C (nD C.F r u p) (cK C.F p).p kp w'∧FuM g W2 w':=fun W2 ks cs hb2 hown=>by
      have hk:=(hown.lt ks rfl).1;have hh:=hang_m S _ z u ks cs (h.next hb2) (hH u r.length) (by omega) (by omega) (own_self hown) (by omega) (fun e=>by have:=lvk ks e;omega);rw[cmd_hd C.F hpl] at hh;exact hh
    have HC:=Lib.hid (And.intro c1 (And.intro c2 hSp));clear c1 c2 hS hH hz lvk h hb ho hSl hs hr hSp;go_enter Tryz.func54,Tryz.ntmps54
    go_wp2_with (first
      | (go_at_call 78;with_reducible refine(HC.out.2.1 _ _ _ H1.out.2 H1.out.1).mono ?_
         rintro e w3 ⟨rfl,⟨lv3,hU⟩,hf⟩;have kk:=hU.setK (kp+1);rw[show ((kp+1:Nat):Int)=(kp:Int)+1 by omega] at kk;obtain⟨_,_,_,_,_,_,_,_,c8⟩:=hU.cells;have f8:=hU.w.frozen 8;have H3:=Lib.hid (And.intro kk ((FuM.of H1.out.2 (Nat.le_of_lt gl)).trans hf));clear hU hf kk)
      | (go_at_call 77;with_reducible refine HC.out.1.mono ?_
         rintro e w2 ⟨⟨v,rfl,hown⟩,hb2⟩;obtain⟨A2,n2,c2,rfl⟩:=az hown;obtain rfl:=bN hown;obtain⟨ks,rfl⟩:=ly hown HC.out.2.2;have H1:=Lib.hid (And.intro hown hb2);clear hown hb2)
      | fail)
    refine bodyPost_ret (results_none rfl _ _ _) rfl ?_;exact⟨rfl,⟨_,H3.out.1.1⟩,H3.out.2.trans H3.out.1.2⟩
  | none=>
    have c1:=older_no (uk_ub X) h hpl ho;have hbg:CK C.F (p:Int)=true:=by
      unfold CK;rw[decide_eq_true (by omega),decide_eq_true (by omega),Int.toNat_natCast,hb];rfl
    have hpos:0<(cK C.F p).l.length:=by obtain⟨m,h1,_⟩:=qy C.F hpl;rw[h1];simp
    obtain⟨c0,_,_,_,_,_,_,c7,_⟩:=h.cells;have c2:∀(W2:World),Below W.heap.size W W2→Calls Tryz.prog 79 #[C.nv,.int .i64 (p:Int)] W2 fun e w'=>(∃ks cs,e=.returned (.tuple #[.slice (some ⟨ks,0,none⟩) (cK C.F p).l.length cs,.int .i64 ((cK C.F p).p:Int)])∧w'.ownsRow W2.heap.size 49 4 (.slice (some ⟨ks,0,none⟩) (cK C.F p).l.length cs) (cK C.F p).l.length (dt (cK C.F p).l))∧Below W2.heap.size W2 w':=fun W2 hb2=>by
      refine(DI C.F (p:Int) C.nv W2 X.hfF (((h.next hb2).f.mono (Nat.le_of_lt (h.next hb2).w.lt)))).mono ?_;rintro e w' ⟨⟨v,q,rfl,(⟨h1,_⟩|⟨_,rfl,hown⟩)⟩,hb3⟩
      ·rw[hbg] at h1;cases h1
      ·rw[Int.toNat_natCast] at hown ⊢;obtain⟨A2,n2,c2,rfl⟩:=az hown;obtain rfl:=bN hown;obtain⟨ks,rfl⟩:=ly hown hpos;exact⟨⟨ks,c2,rfl,hown⟩,hb3⟩
    have c3:∀(W2 W3:World) (ks cs:Nat),Below W.heap.size W W2→Below W2.heap.size W2 W3→W3.ownsRow W2.heap.size 49 4 (.slice (some ⟨ks,0,none⟩) (cK C.F p).l.length cs) (cK C.F p).l.length (dt (cK C.F p).l)→Calls Tryz.prog 78 #[.pointer (some ⟨g,0,none⟩),.int .i64 (u:Int),.slice (some ⟨ks,0,none⟩) (cK C.F p).l.length cs,.int .i64 0] W3 fun e w'=>e=.returned (.tuple #[])∧Um g C (nD C.F r u p) (cK C.F p).p kp w'∧FuM g W w':=fun W2 W3 ks cs hb2 hb3 hown=>by
      have hk:=(hown.lt ks rfl).1;have hw:=hb2.size;have hb4:=hb2.trans (hb3.mono hw);have hh:=hang_m (cK C.F p).l _ 0 u ks cs (h.next hb4) (cmd_hg C.F hpl hF u r.length) (by omega) (by omega) (own_self hown) (by omega) (fun e=>by have:=lvk ks e;omega);rw[cmd_hd C.F hpl] at hh;refine hh.mono ?_;rintro e w' ⟨rfl,h1,h2⟩;exact⟨rfl,h1,(FuM.of hb4 (Nat.le_of_lt gl)).trans h2⟩
    have HC:=Lib.hid (And.intro c1 (And.intro c2 (And.intro c3 h)));clear c1 c2 c3 lvk h hb ho hs hr hbg hpos;go_enter Tryz.func54,Tryz.ntmps54
    go_wp2_with (first
      | (go_at_call 77;with_reducible refine HC.out.1.mono ?_
         rintro e w2 ⟨rfl,hb2⟩;obtain⟨c0,_,_,_,_,_,_,c7,_⟩:=(HC.out.2.2.2.next hb2).cells;have H1:=Lib.hid hb2;clear hb2)
      | fail)
    go_region_held3 (fun w'=>w'.cell? ⟨g,0,none⟩=some C.nv∧w'.cell? ⟨g,7,none⟩=some (.int .i64 (p:Int)))
     (first|with_reducible exact⟨c0,c7⟩|exact⟨c0,c7⟩)
     (
      (go_at_call 79;with_reducible refine(HC.out.2.1 _ (H1.out.trans (((Below.refl _ w2).drew).mono H1.out.size))).mono ?_
       rintro e w3 ⟨⟨ks,cs,rfl,hown⟩,hb3⟩;have H2:=Lib.hid (And.intro hown hb3);have c0:=wj ((Below.refl _ w2).drew.trans hb3) c0;have c7:=wj ((Below.refl _ w2).drew.trans hb3) c7;clear hown hb3))
    go_wp2_with (first
      | (go_at_call 78;with_reducible refine(HC.out.2.2.1 _ _ _ _ (H1.out.trans (((Below.refl _ w2).drew).mono H1.out.size)) H2.out.2 H2.out.1).mono ?_
         rintro e w4 ⟨rfl,hU,hf⟩;have H3:=Lib.hid (And.intro hU hf);clear hU hf)
      | fail)
    go_end0;exact⟨rfl,H3.out.1,H3.out.2⟩
end Go.Proofs.YtfagdpfgifgnoaaGreatDoor
namespace Go.Proofs.YtfagdpfgifgnoaaGreatDoor
open Go.RowKit
set_option linter.unusedVariables false
set_option linter.unusedSimpArgs false
set_option maxRecDepth 100000
def pAt (g:Nat) (w:World):Nat:=match w.cell? ⟨g,7,none⟩ with|some (.int _ z)=>z.toNat|_=>0
theorem Um.pAt {g:Nat} {C:Uc} {r:List Nd} {p kp:Nat} {W:World} (h:Um g C r p kp W):pAt g W=p:=by
  obtain⟨lv,h⟩:=h;unfold Go.Proofs.YtfagdpfgifgnoaaGreatDoor.pAt;rw[h.cells.2.2.2.2.2.2.2.1];exact Int.toNat_natCast p
theorem Um.setP {g:Nat} {C:Uc} {r:List Nd} {p kp:Nat} {lv:Value} {W:World} (h:Ul g C r p kp lv W):Um g C r p kp W:=⟨lv,h⟩
def tkN (C:Uc) (cs:List Nat):Nat:=(cs.map fun p=>(oldC C p).toList.length).sum
theorem tkN_snoc (C:Uc) (cs:List Nat) (p:Nat):tkN C (cs++[p])=tkN C cs+(oldC C p).toList.length:=by unfold tkN;simp
theorem tkN_app (C:Uc) (cs ds:List Nat):tkN C (cs++ds)=tkN C cs+tkN C ds:=by unfold tkN;simp
theorem bg_pipe {F:List Lf} {q:Nat} (hq:q≤F.length):CK F (q:Int)=bH F (eI q):=by
  unfold CK;rw[decide_eq_true (by omega),Int.toNat_natCast];rcases Nat.lt_or_ge q F.length with h|h
  ·rw[decide_eq_true (by omega)];rfl
  ·rw[decide_eq_false (by omega)]
   cases hb:bH F (eI q)
   ·rfl
   ·have:=BE hb
    have:q<F.length:=this
    omega
theorem ubegins_m {g:Nat} {C:Uc} {G:List Lf} {r:List Nd} {p kp:Nat} {W:World} (X:Uk C G) (h:Um g C r p kp W) (hp:p≤C.F.length) (W2:World) (hb:Below W.heap.size W W2) :
    Calls Tryz.prog 30 #[C.nv,.int .i64 (p:Int)] W2 fun e w'=>e=.returned (.bool (bH C.F (eI p)))∧Below W2.heap.size W2 w':=by
  obtain⟨lv,h⟩:=h.next hb;rw[←bg_pipe hp];exact vM C.F (p:Int) C.nv W2 X.hfF (h.f.mono (Nat.le_of_lt h.w.lt))
structure LsI (g:Nat) (C:Uc) (P P0:List Nd) (p0 k0:Nat) (fin:Ps) (W:World) (p:Nat) (m:List Nd) (cs:List Nat) (w:World):Prop where
  u:Um g C (P++⟨2,p0,0,0⟩::m) p (k0+tkN C cs) w
  f:FuM g W w
  b:sL C.F P.length (P.length+1) m cs
  n:P.length+1+m.length≤16*p+2
  le:p0≤p
  lt:p<C.F.length
  pb:bH C.F (eI p)=true
  hls:EE C.F P.length (P0++[⟨2,p0,0,0⟩]++m) p fin
  hkn:k0+tkN C cs≤P.length+m.length
def LsE (g:Nat) (C:Uc) (P P0:List Nd) (p0 k0:Nat) (fin:Ps) (W:World) (q:Nat) (m:List Nd) (cs:List Nat) (t:Nat) (w:World):Prop:=
  fin=⟨q,P0++[⟨2,p0,0,0⟩]++m,(P.length:Int),0⟩∧Um g C (P++⟨2,p0,t,0⟩::m) q (k0+tkN C cs) w∧FuM g W w∧sL C.F P.length (P.length+1) m cs∧p0≤q∧q≤C.F.length∧P.length+1+m.length≤16*q+5∧k0+tkN C cs≤P.length+m.length
def hgT (F:List Lf) (b u p:Nat):List Nd:=(cK F p).l.map (om 0 b (u:Int))
section
variable {g:Nat} {C:Uc} {G:List Lf} {P P0:List Nd} {p0 k0:Nat} {fin:Ps} {W:World} {p:Nat} {m:List Nd} {cs:List Nat} {w:World}
theorem LsI.cmd (X:Uk C G) (hP:P0.length=P.length) (h:LsI g C P P0 p0 k0 fin W p m cs w) :
    Calls Tryz.prog 54 #[.pointer (some ⟨g,0,none⟩),.int .i64 (P.length:Int)] w fun e w'=>e=.returned (.tuple #[]) ∧
      Um g C (P++⟨2,p0,0,0⟩::(m++hgT C.F (P.length+1+m.length) P.length p)) (cK C.F p).p (k0+tkN C (cs++[p])) w'∧FuM g W w':=by
  have hc:=ucommand_m X P.length h.u h.lt h.pb (by rw[List.length_append,List.length_cons];have:=h.n;omega) (by have:=h.n;have:=h.hkn;have:=X.hfF.n;have:=h.lt;omega);refine hc.mono ?_;rintro e w' ⟨rfl,h1,h2⟩;refine⟨rfl,?_,h.f.trans h2⟩;rw[tkN_snoc,←Nat.add_assoc];unfold nD at h1;rw[List.append_assoc,List.cons_append,show (P++⟨2,p0,0,0⟩::m).length=P.length+1+m.length by rw[List.length_append,List.length_cons];omega] at h1;exact h1
theorem LsI.len (h:LsI g C P P0 p0 k0 fin W p m cs w):P.length+1+(m++hgT C.F (P.length+1+m.length) P.length p).length≤16*(cK C.F p).p+5∧p≤(cK C.F p).p∧(cK C.F p).p≤C.F.length:=by
  have h1:=cmd_sz C.F (Nat.le_of_lt h.lt);have h2:=h.n;unfold hgT;rw[List.length_append,List.length_map];omega
theorem tkN_one (C:Uc) (p:Nat):(oldC C p).toList.length≤1:=by cases oldC C p<;>simp
theorem LsI.kn2 (h:LsI g C P P0 p0 k0 fin W p m cs w):k0+tkN C (cs++[p])≤P.length+(m++hgT C.F (P.length+1+m.length) P.length p).length:=by
  have h1:=h.hkn;have h2:=tkN_one C p;obtain⟨c,e,_⟩:=qy C.F (Nat.le_of_lt h.lt);rw[tkN_snoc];unfold hgT;rw[List.length_append,List.length_map,e,List.length_cons];omega
theorem LsI.blk (h:LsI g C P P0 p0 k0 fin W p m cs w):sL C.F P.length (P.length+1) (m++hgT C.F (P.length+1+m.length) P.length p) (cs++[p]):=h.b.app (Nat.le_of_lt h.lt)
theorem LsI.hang (hP:P0.length=P.length) (h:LsI g C P P0 p0 k0 fin W p m cs w):nD C.F (P0++[⟨2,p0,0,0⟩]++m) P.length p=P0++[⟨2,p0,0,0⟩]++(m++hgT C.F (P.length+1+m.length) P.length p):=by
  unfold nD hgT;rw[show (P0++[(⟨2,p0,0,0⟩:Nd)]++m).length=P.length+1+m.length by simp[hP];omega,List.append_assoc]
theorem LsI.go (hP:P0.length=P.length) (h:LsI g C P P0 p0 k0 fin W p m cs w) {q:Nat} {w':World} (hs:∀l:List Nd,cR C.F ⟨(cK C.F p).p,l,(P.length:Int),0⟩=(⟨q,l,(P.length:Int),0⟩,bH C.F (eI q))) (hq:(cK C.F p).p+1≤q) (hb:bH C.F (eI q)=true)
    (hu:Um g C (P++⟨2,p0,0,0⟩::(m++hgT C.F (P.length+1+m.length) P.length p)) q (k0+tkN C (cs++[p])) w') (hf:FuM g W w'):LsI g C P P0 p0 k0 fin W q (m++hgT C.F (P.length+1+m.length) P.length p) (cs++[p]) w':=by
  have h1:=h.len;refine⟨hu,hf,h.blk,by omega,by have:=h.le;omega,BE hb,hb,?_,?_⟩
  ·have h2:=GA h.hls (Nat.le_of_lt h.lt) (by rw[hs,hb])
   rwa [h.hang hP] at h2
  ·exact h.kn2
theorem LsI.endd (hP:P0.length=P.length) (h:LsI g C P P0 p0 k0 fin W p m cs w) {q:Nat} {w':World} (hs:∀l:List Nd,cR C.F ⟨(cK C.F p).p,l,(P.length:Int),0⟩=(⟨q,l,(P.length:Int),0⟩,false)) (hq:(cK C.F p).p≤q) (hq2:q≤C.F.length)
    (hu:Um g C (P++⟨2,p0,0,0⟩::(m++hgT C.F (P.length+1+m.length) P.length p)) q (k0+tkN C (cs++[p])) w') (hf:FuM g W w'):LsE g C P P0 p0 k0 fin W q (m++hgT C.F (P.length+1+m.length) P.length p) (cs++[p]) 0 w':=by
  have h1:=h.len;have h2:=Gl h.hls (Nat.le_of_lt h.lt) (hs _);rw[h.hang hP] at h2;exact⟨h2,hu,hf,h.blk,by have:=h.le;omega,hq2,by omega,h.kn2⟩
end
end Go.Proofs.YtfagdpfgifgnoaaGreatDoor
namespace Go.Proofs.YtfagdpfgifgnoaaGreatDoor
open Go.RowKit
set_option linter.unusedVariables false
set_option linter.unusedSimpArgs false
set_option maxRecDepth 100000
inductive Pth (L:List Nd):List Nat→Nat→Prop
  | root:Pth L [] 0
  | step {ys:List Nat} {u k:Nat} {n:Nd}:Pth L ys u→L[k]? = some n→n.up=(u:Int)→u<k→Pth L (ys++[u]) k
theorem Pth.pop {L:List Nd} {n:Nat} (h0:L[0]? = some ⟨1,0,n, -1⟩) {ys:List Nat} {t u:Nat} (h:Pth L ys t) (ha:sE L u t) (hne:t≠u):∃ys0 u0,ys=ys0++[u0]∧Pth L ys0 u0∧sE L u u0∧u0<t:=by
  cases h with
  | root=>
    cases ha with
    | refl=>exact absurd rfl hne
    | step h1 h2 h3 _=>omega
  | @step ys0 u0 _ m h1 h2 h3 h4=>
    cases ha with
    | refl=>exact absurd rfl hne
    | @step _ c m2 e1 e2 e3 e4=>
      rw[h2] at e1
      cases e1
      have:c=u0:=by omega
      subst this;exact⟨ys0,c,rfl,h1,e4,h4⟩
theorem Pth.len {L:List Nd} {ys:List Nat} {t:Nat} (h:Pth L ys t):ys.length≤t:=by
  induction h with
  | root=>exact Nat.le_refl _
  | step _ _ _ h ih=>rw[List.length_append,List.length_singleton];omega
def EOk (L:List Nd) (E:List Int) (k:Nat):Prop:=E.length=L.length∧∀(u:Nat) (e:Int),E[u]? = some e→e=0∨∃(j:Nat) (q:Nd),0<j∧j<k∧L[j]? = some q∧q.up=(u:Int)∧e=(q.tt:Int)
theorem EOk.put {L:List Nd} {E:List Int} {k u:Nat} {x:Nd} (h:EOk L E k) (hk:0<k) (hx:L[k]? = some x) (hu:x.up=(u:Int)):EOk L (E.set u (x.tt:Int)) (k+1):=by
  refine⟨by rw[List.length_set];exact h.1,fun v e he=>?_⟩;by_cases hv:u=v
  ·subst hv;rw[List.getElem?_set] at he;simp only[if_true] at he;split at he
   ·cases he;exact .inr ⟨k,x,hk,by omega,hx,hu,rfl⟩
   ·cases he
  ·rw[List.getElem?_set_ne hv] at he;rcases h.2 v e he with h1|⟨j,q,j0,j1,j2,j3,j4⟩
   ·exact .inl h1
   ·exact .inr ⟨j,q,j0,by omega,j2,j3,j4⟩
set_option maxHeartbeats 1000000 in
theorem fits_m (kd fr tt up:Int) (w:World) (h1:1≤kd) (h2:kd≤18) (h3:fr≤tt) :
    Calls Tryz.prog 50 #[.agg #[.int .i64 kd,.int .i64 fr,.int .i64 tt,.int .i64 up]] w fun e w'=>e=.returned (.bool true)∧Below w.heap.size w w':=by
  go_enter Tryz.func50,Tryz.ntmps50;go_wp2;go_ret;exact⟨rfl,(Below.refl _ w).alloc (Nat.le_refl _) _⟩
set_option maxHeartbeats 8000000 in
theorem check14_m (L:List Nd) (A:Option Addr) (c nl:Nat) (w:World) (hl:L.length≤90000) (hrd:Rd w w.heap.size 4 (.slice A L.length c) L.length (dt L)) (hok:mj L) (h0:L[0]? = some ⟨1,0,nl, -1⟩) :
    Calls Tryz.prog 27 #[.slice A L.length c,.int .i64 (nl:Int)] w fun e w'=>e=.returned (.bool true)∧Below w.heap.size w w':=by
  have hmix:Tryz.prog.follows .mixedOrders=true:=by kernel_rfl
  obtain⟨i0,hi,hz0,hz1,hz2⟩:=info_parts Tryz.infoInt29;have hne:0<L.length:=(List.getElem?_eq_some_iff.1 h0).1;have hne1:((L.length:Int)==0)=false:=beq_false_of_ne (by omega);have hne2:(0:Int)<(L.length:Int):=by omega
  obtain⟨g,o,rfl,hgl,hc0⟩:=bS de hrd h0 rfl;have y0:w.cell? ⟨g,o,none⟩=some (.int .i64 1):=by have:=hc0 0 _ rfl;simpa using this
  have y1:w.cell? ⟨g,o+1,none⟩=some (.int .i64 0):=by have:=hc0 1 _ rfl;simpa using this
  have y2:w.cell? ⟨g,o+2,none⟩=some (.int .i64 (nl:Int)):=by have:=hc0 2 _ rfl;simpa using this
  have y3:w.cell? ⟨g,o+3,none⟩=some (.int .i64 (-1)):=by have:=hc0 3 _ rfl;simpa using this
  have HC:=Lib.hid (And.intro hrd (And.intro hok h0));have hnl:(0:Int)≤(nl:Int):=by omega
  clear hrd hok hc0 h0;go_enter Tryz.func27,Tryz.ntmps27;go_upto_region 3 with (
    (go_at_call 50;refine(fits_m _ _ _ _ _ (by omega) (by omega) hnl).mono ?_;rintro e w1 ⟨rfl,hb1⟩;have H1:=Lib.hid hb1;clear hb1))
  go_upto_region 4 with fail
  obtain⟨W1,hW1⟩:∃W1,W1=w1.alloc (.cells #[.int .i64 0] 3):=⟨_,rfl⟩;rw[←hW1];have p1:W1.ownsRow w1.heap.size 3 1 (.slice (some ⟨w1.heap.size,0,none⟩) 1 1) 1 (vO [0]):=by rw[hW1];exact World.ownsRow_lit _ _ 1 (Nat.le_refl _) (by unfold maxLen;omega) rfl
  have hb1:Below w1.heap.size w1 W1:=by rw[hW1];exact(Below.refl _ _).alloc (Nat.le_refl _) _
  have hs1:W1.heap.size=w1.heap.size+1:=by rw[hW1];simp
  obtain⟨W2,hmk,hown2,hg2⟩:=run_makeSlice_full (P:=Tryz.prog) W1 W1.heap.size 50 3 i0 _ 1 Tryz.underlying50 hi hz0 hz1 .i64 .i64 L.length (by omega) (by rw[hz2];omega) (by unfold maxLen;omega) (Nat.le_refl _);have hb2:Below W1.heap.size W1 W2:=(Below.refl _ W1).grown hg2 (Nat.le_refl _) (fun k hk=>by cases hk);have hbw:Below w.heap.size w W2:=(H1.out.trans (hb1.mono H1.out.size)).trans (hb2.mono (by have:=H1.out.size;omega));have hw1:=H1.out.size;have e0:(madeCells (Value.int .i64 0).cells (L.length*1)).toList=(List.replicate L.length (0:Int)).map (Value.int .i64):=by
    rw[show (Value.int .i64 0).cells=#[Value.int .i64 0] from rfl,toList_madeCells_one,List.map_replicate,Nat.mul_one]
  rw[e0] at hown2;have HM:=Lib.hid hmk;obtain⟨ge,hge⟩:∃ge,ge=W1.heap.size:=⟨_,rfl⟩;obtain⟨g5,hg5⟩:∃g5,g5=w1.heap.size:=⟨_,rfl⟩;have HW:=Lib.hid (And.intro (ez (B':=w.heap.size) (aN p1 hb2) hw1) (And.intro (ez (B':=w.heap.size) hown2 (by omega)) (And.intro hbw (show g5≠ge by omega))));rw[←hge,←hg5] at HW;clear p1 hb1 hb2 hbw hown2 hg2 hmk e0 hW1 y0 y1 y2 y3;go_wp2_with fail;rw[HM.out];rw[←hge,←hg5];clear hge hg5 hs1 hw1;go_wp2_with fail;go_loopw [5,7] (fun s5 i wr=>∃(k:Nat) (ys:List Nat) (t:Nat) (E:List Int),0<k∧k≤L.length∧i=.int .i64 (k:Int)∧t+1=k∧Pth L ys t∧EOk L E k∧wr.ownsRow w.heap.size 3 1 s5 (ys.length+1) (vO (ys++[t]))∧wr.ownsRow w.heap.size 3 1 (.slice (some ⟨ge,0,none⟩) L.length L.length) L.length (E.map (Value.int .i64))∧s5.ownBlock≠some ge∧Below w.heap.size w wr) (fun s5 i _=>L.length-(intOf i).toNat)
  case atStart=>exact⟨1,[],0,List.replicate L.length 0,Nat.one_pos,by omega,rfl,rfl,Pth.root,⟨List.length_replicate,fun u e he=>.inl (List.eq_of_mem_replicate (List.mem_of_getElem? he))⟩,HW.out.1,HW.out.2.1,fun e=>HW.out.2.2.2 (by injection e),HW.out.2.2.1⟩
  case round=>
    obtain⟨k,ys,t,E,hk0,hk,rfl,htk,hP,hE,hp,hen,hne5,hb⟩:=hrel;by_cases hlt:k<L.length
    ·have u1:(k:Int)<(L.length:Int):=by omega
     have u2:(0:Int)≤(k:Int):=by omega
     obtain⟨x,hx⟩:∃x,L[k]? = some x:=⟨_,List.getElem?_eq_getElem hlt⟩;obtain⟨g0,o0,eg,_,hc⟩:=bS de (HC.out.1.keep hb (Nat.le_refl _)) hx rfl
     cases eg;have hn:=HC.out.2.1 k x hx;obtain⟨u,m,n1,n2,n3,n4,n5,n6,n7⟩:=hn.u hk0;obtain⟨g0,o0,eg,_,hcu⟩:=bS de (HC.out.1.keep hb (Nat.le_refl _)) n4 rfl
     cases eg;obtain⟨kd,hkd⟩:∃z:Int,z=(x.kd:Int):=⟨_,rfl⟩;obtain⟨fr,hfr⟩:∃z:Int,z=(x.fr:Int):=⟨_,rfl⟩;obtain⟨tt,htt⟩:∃z:Int,z=(x.tt:Int):=⟨_,rfl⟩;obtain⟨yf,hyf⟩:∃z:Int,z=(m.fr:Int):=⟨_,rfl⟩;obtain⟨yt,hyt⟩:∃z:Int,z=(m.tt:Int):=⟨_,rfl⟩;have z0:wr.cell? ⟨g,o+k*4,none⟩=some (.int .i64 kd):=by rw[hkd];exact hc 0 _ rfl
     have z1:wr.cell? ⟨g,o+k*4+1,none⟩=some (.int .i64 fr):=by rw[hfr];exact hc 1 _ rfl
     have z2:wr.cell? ⟨g,o+k*4+2,none⟩=some (.int .i64 tt):=by rw[htt];exact hc 2 _ rfl
     have z3:wr.cell? ⟨g,o+k*4+3,none⟩=some (.int .i64 (u:Int)):=by rw[←n1];exact hc 3 _ rfl
     have hv1:wr.cell? ⟨g,o+u*4+1,none⟩=some (.int .i64 yf):=by rw[hyf];exact hcu 1 _ rfl
     have hv2:wr.cell? ⟨g,o+u*4+2,none⟩=some (.int .i64 yt):=by rw[hyt];exact hcu 2 _ rfl
     have hul:u<E.length:=by rw[hE.1];omega
     obtain⟨en,hen1⟩:∃en,E[u]? = some en:=⟨_,List.getElem?_eq_getElem hul⟩;have hef:en≤fr:=by
       rcases hE.2 u en hen1 with h|⟨j,q,j0,j1,j2,j3,j4⟩
       ·omega
       ·have:=n7 j q j0 j1 j2 (by rw[j3,n1]);omega
     have hec:wr.cell? ⟨ge,u,none⟩=some (.int .i64 en):=aJ hen u _ (by rw[List.getElem?_map,hen1];rfl);have hE2:=hE.put hk0 hx n1;have q1:1≤kd:=by have:=hn.k.1;omega
     have q2:kd≤18:=by have:=hn.k.2.1;omega
     have q3:fr≤tt:=by have:=hn.le;omega
     have t7:decide (fr<max yf en)=false:=decide_eq_false (by omega);have t8:decide (yt<tt)=false:=decide_eq_false (by omega);have HQ:=Lib.hid (fun W=>fits_m kd fr tt (u:Int) W q1 q2 q3);have hu3:(u:Int)<(L.length:Int):=by omega
     have hu4:(0:Int)≤(u:Int):=by omega
     obtain⟨nb,hnb⟩:∃nb,nb=wr.heap.size:=⟨_,rfl⟩;obtain⟨WA,hWA⟩:∃WA,WA=wr.alloc (.cells #[.int .i64 kd,.int .i64 fr,.int .i64 tt,.int .i64 (u:Int)] 49):=⟨_,rfl⟩;have hbA:Below wr.heap.size wr WA:=by rw[hWA];exact(Below.refl _ _).alloc (Nat.le_refl _) _
     have kb:Bk WA nb 49 #[.int .i64 kd,.int .i64 fr,.int .i64 tt,.int .i64 (u:Int)]:=by rw[hWA,hnb];exact Bk.new _ _ _
     replace n3:sE L u t:=by rw[show t=k-1 by omega];exact n3
     have HN:=Lib.hid (And.intro hE2 (And.intro n3 (And.intro (aN hp hbA) (And.intro (aN hen hbA) (And.intro hne5 (And.intro (hb.trans (hbA.mono hb.size)) (And.intro kb (And.intro hP (And.intro hx (And.intro n1 htt))))))))));have HV:=Lib.hid (And.intro (wj hbA hv1) (And.intro (wj hbA hv2) (wj hbA hec)));have htk2:t<k:=by omega
     have HZ:=Lib.hid (fun zs v (h:Pth L zs v) (hv:v<k)=>(show zs.length<L.length by have:=h.len;omega));clear hE2 n3 hp hen hne5 hb hbA kb hP hE hx n1 n2 n4 n5 n6 n7 hc hcu hn hv1 hv2 hec hen1 hkd hfr htt hyf hyt hef htk;go_upto_block 9 with fail
     rw[←hnb,←hWA];have HB:=Lib.hid hnb;clear hnb hWA z0 z1 z2 z3;go_loopw [5] (fun s5 wv=>∃(zs:List Nat) (v:Nat) (q:Nat),wv=WA.drewN q∧Pth L zs v∧sE L u v∧v<k∧WA.ownsRow w.heap.size 3 1 s5 (zs.length+1) (vO (zs++[v]))∧s5.ownBlock≠some ge) (fun s5 _=>match s5 with | .slice _ n _=>n|_=>0)
     case atStart=>exact⟨ys,t,0,rfl,HN.out.2.2.2.2.2.2.2.1,HN.out.2.1,htk2,HN.out.2.2.1,HN.out.2.2.2.2.1⟩
     case round=>
       obtain⟨zs,v,nd,rfl,hP,hA,hvk,hp,hne5⟩:=hrel;obtain⟨gp,cp,rfl⟩:=fK hp;obtain⟨_,hcp1,hcp2,_,_⟩:=dc hp;unfold maxLen at hcp2;have hzl:zs.length<L.length:=HZ.out zs v hP hvk;have x1:WA.cell? ⟨gp,zs.length,none⟩=some (.int .i64 (v:Int)):=aJ hp _ _ (by rw[yQ];simp[vO]);have b3:WA.cell? ⟨nb,3,none⟩=some (.int .i64 (u:Int)):=by rw[HN.out.2.2.2.2.2.2.1.cell];rfl
       by_cases hvu:v=u
       ·subst hvu;have t1:((v:Int)!=(v:Int))=false:=by simp
        have HX:=Lib.hid (And.intro hP (And.intro hp hne5));have hn0:=Lib.hid (rfl:zs.length=zs.length);clear hP hA hp hne5;obtain⟨n,hn⟩:∃n,n=zs.length:=⟨_,rfl⟩;have HNn:=Lib.hid hn;rw[←hn] at x1 hzl hcp1 HX ⊢;clear hn;have w1:IntKind.i64.wrap (n:Int)=(n:Int):=IntWalk.i64_in _ (by omega);have w2:IntKind.i64.wrap ((n:Int)+1-1)=(n:Int):=by rw[show (n:Int)+1-1=(n:Int) by omega];exact w1
        have w3:(n:Int)<(n:Int)+1:=by omega
        have w4:(0:Int)≤(n:Int):=by omega
        have w5:n<n+1:=by omega
        go_wp2_with fail;go_quiet (fail);go_wp2_with fail;clear x1 b3 t1;obtain⟨W2,hW2⟩:∃W2,W2=(WA.drewN nd).drewN nq:=⟨_,rfl⟩;rw[←hW2];have kb:Bk W2 nb 49 #[.int .i64 kd,.int .i64 fr,.int .i64 tt,.int .i64 (v:Int)]:=by rw[hW2];exact HN.out.2.2.2.2.2.2.1
        have b0:W2.cell? ⟨nb,0,none⟩=some (.int .i64 kd):=by rw[kb.cell];rfl
        have b1:W2.cell? ⟨nb,1,none⟩=some (.int .i64 fr):=by rw[kb.cell];rfl
        have b2:W2.cell? ⟨nb,2,none⟩=some (.int .i64 tt):=by rw[kb.cell];rfl
        have b3:W2.cell? ⟨nb,3,none⟩=some (.int .i64 (v:Int)):=by rw[kb.cell];rfl
        have v1:W2.cell? ⟨g,o+v*4+1,none⟩=some (.int .i64 yf):=by rw[hW2];exact HV.out.1
        have v2:W2.cell? ⟨g,o+v*4+2,none⟩=some (.int .i64 yt):=by rw[hW2];exact HV.out.2.1
        have e1:W2.cell? ⟨ge,v,none⟩=some (.int .i64 en):=by rw[hW2];exact HV.out.2.2
        have HY:=Lib.hid (And.intro kb (And.intro (show W2.ownsRow w.heap.size 3 1 (.slice (some ⟨gp,0,none⟩) (n+1) cp) (n+1) (vO (zs++[v])) by rw[hW2];exact HX.out.2.1) (And.intro (show W2.ownsRow w.heap.size 3 1 (.slice (some ⟨ge,0,none⟩) L.length L.length) L.length (E.map (Value.int .i64)) by rw[hW2];exact HN.out.2.2.2.1) (show Below w.heap.size w W2 by rw[hW2];exact ae (ae HN.out.2.2.2.2.2.1 _) _))));clear hW2 kb;obtain⟨S0,hS0⟩:∃S0:World→Prop,S0=fun w'=>Below W2.heap.size W2 w':=⟨_,rfl⟩
        refine wp_region_held (S:=S0) hmix ?_;show wpAnyH _ _ _ _ _ _ _ _ W2.drew;have hS1:S0 W2.drew:=by rw[hS0];exact(Below.refl _ W2).drew
        have tc:∀(w':World),S0 w'→∀(a:Addr) (v:Value),W2.cell? a=some v→w'.cell? a=some v:=fun w' h a v hc=>wj (by rw[hS0] at h;exact h) hc
        refine wpAnyH_take (i:=0) (v:=.slice (some ⟨gp,0,none⟩) (n+1) cp) rfl (by decide +kernel) (by decide +kernel) (by decide +kernel) (fun _ _ _ h=>h) (Or.inl ⟨by rfl,fun w' hS=>?_⟩) hS1 ?_
        ·go_simp
        try simp only[Act.put,List.getElem_toArray,List.getElem_cons_succ,List.getElem_cons_zero,List.setIfInBounds_toArray,List.set_cons_zero,List.set_cons_succ]
        refine wpAnyH_take (i:=1) (v:=.int .i64 ((n:Int)+1)) rfl (by decide +kernel) (by decide +kernel) (by decide +kernel) (fun _ _ _ h=>h) (Or.inl ⟨by rfl,fun w' hS=>?_⟩) hS1 ?_
        ·go_simp
        try simp only[Act.put,List.getElem_toArray,List.getElem_cons_succ,List.getElem_cons_zero,List.setIfInBounds_toArray,List.set_cons_zero,List.set_cons_succ]
        refine wpAnyH_take (i:=2) (v:=.bool false) rfl (by decide +kernel) (by decide +kernel) (by decide +kernel) (fun _ _ _ h=>h) (Or.inl ⟨by rfl,fun w' hS=>?_⟩) hS1 ?_
        ·go_simp;omega
        try simp only[Act.put,List.getElem_toArray,List.getElem_cons_succ,List.getElem_cons_zero,List.setIfInBounds_toArray,List.set_cons_zero,List.set_cons_succ]
        refine wpAnyH_take (i:=3) (v:=.bool false) rfl (by decide +kernel) (by decide +kernel) (by decide +kernel) (fun _ _ _ h=>h) (Or.inl ⟨by rfl,fun w' hS=>?_⟩) hS1 ?_
        ·go_simp
        try simp only[Act.put,List.getElem_toArray,List.getElem_cons_succ,List.getElem_cons_zero,List.setIfInBounds_toArray,List.set_cons_zero,List.set_cons_succ]
        refine wpAnyH_take (i:=4) (v:=.agg #[.int .i64 kd,.int .i64 fr,.int .i64 tt,.int .i64 (v:Int)]) rfl (by decide +kernel) (by decide +kernel) (by decide +kernel) (fun _ _ _ h=>h) (Or.inl ⟨by rfl,fun w' hS=>?_⟩) hS1 ?_
        ·have c0:=tc w' hS _ _ b0;have c1:=tc w' hS _ _ b1;have c2:=tc w' hS _ _ b2;have c3:=tc w' hS _ _ b3;go_simp
        try simp only[Act.put,List.getElem_toArray,List.getElem_cons_succ,List.getElem_cons_zero,List.setIfInBounds_toArray,List.set_cons_zero,List.set_cons_succ]
        refine wpAnyH_all (rs:=[5]) (by decide +kernel) (by simp) (jI rfl (by rfl) (fun K2 hK2=>?_) (jJ (S:=S0)));go_simp;go_at_call 50;refine(HQ.out _).mono ?_;rintro e w3 ⟨rfl,hb⟩;have H3:=Lib.hid ((Below.refl _ W2).drew.trans hb);clear hb;have hS2:S0 w3:=by rw[hS0];exact H3.out
        refine hK2 _ _ hS2 ?_;clear hK2 K2;try simp only[Act.put,List.getElem_toArray,List.getElem_cons_succ,List.getElem_cons_zero,List.setIfInBounds_toArray,List.set_cons_zero,List.set_cons_succ]
        refine wpAnyH_take (i:=6) (v:=.bool false) rfl (by decide +kernel) (by decide +kernel) (by decide +kernel) (fun _ _ _ h=>h) (Or.inl ⟨by rfl,fun w' hS=>?_⟩) hS2 ?_
        ·go_simp
        try simp only[Act.put,List.getElem_toArray,List.getElem_cons_succ,List.getElem_cons_zero,List.setIfInBounds_toArray,List.set_cons_zero,List.set_cons_succ]
        refine wpAnyH_take (i:=7) (v:=.bool false) rfl (by decide +kernel) (by decide +kernel) (by decide +kernel) (fun _ _ _ h=>h) (Or.inl ⟨by rfl,fun w' hS=>?_⟩) hS2 ?_
        ·go_simp
        try simp only[Act.put,List.getElem_toArray,List.getElem_cons_succ,List.getElem_cons_zero,List.setIfInBounds_toArray,List.set_cons_zero,List.set_cons_succ]
        refine wpAnyH_take (i:=8) (v:=.bool false) rfl (by decide +kernel) (by decide +kernel) (by decide +kernel) (fun _ _ _ h=>h) (Or.inl ⟨by rfl,fun w' hS=>?_⟩) hS2 ?_
        ·go_simp
        try simp only[Act.put,List.getElem_toArray,List.getElem_cons_succ,List.getElem_cons_zero,List.setIfInBounds_toArray,List.set_cons_zero,List.set_cons_succ]
        refine wpAnyH_take (i:=9) (v:=.pointer (some ⟨nb,1,none⟩)) rfl (by decide +kernel) (by decide +kernel) (by decide +kernel) (fun _ _ _ h=>h) (Or.inl ⟨by rfl,fun w' hS=>?_⟩) hS2 ?_
        ·go_simp
        try simp only[Act.put,List.getElem_toArray,List.getElem_cons_succ,List.getElem_cons_zero,List.setIfInBounds_toArray,List.set_cons_zero,List.set_cons_succ]
        refine wpAnyH_take (i:=10) (v:=.int .i64 fr) rfl (by decide +kernel) (by decide +kernel) (by decide +kernel) (fun _ _ _ h=>h) (Or.inl ⟨by rfl,fun w' hS=>?_⟩) hS2 ?_
        ·have c0:=tc w' hS _ _ b1;go_simp
        try simp only[Act.put,List.getElem_toArray,List.getElem_cons_succ,List.getElem_cons_zero,List.setIfInBounds_toArray,List.set_cons_zero,List.set_cons_succ]
        refine wpAnyH_take (i:=11) (v:=.slice (some ⟨g,o,none⟩) L.length c) rfl (by decide +kernel) (by decide +kernel) (by decide +kernel) (fun _ _ _ h=>h) (Or.inl ⟨by rfl,fun w' hS=>?_⟩) hS2 ?_
        ·go_simp
        try simp only[Act.put,List.getElem_toArray,List.getElem_cons_succ,List.getElem_cons_zero,List.setIfInBounds_toArray,List.set_cons_zero,List.set_cons_succ]
        refine wpAnyH_take (i:=12) (v:=.pointer (some ⟨nb,3,none⟩)) rfl (by decide +kernel) (by decide +kernel) (by decide +kernel) (fun _ _ _ h=>h) (Or.inl ⟨by rfl,fun w' hS=>?_⟩) hS2 ?_
        ·go_simp
        try simp only[Act.put,List.getElem_toArray,List.getElem_cons_succ,List.getElem_cons_zero,List.setIfInBounds_toArray,List.set_cons_zero,List.set_cons_succ]
        refine wpAnyH_take (i:=13) (v:=.int .i64 (v:Int)) rfl (by decide +kernel) (by decide +kernel) (by decide +kernel) (fun _ _ _ h=>h) (Or.inl ⟨by rfl,fun w' hS=>?_⟩) hS2 ?_
        ·have c0:=tc w' hS _ _ b3;go_simp
        try simp only[Act.put,List.getElem_toArray,List.getElem_cons_succ,List.getElem_cons_zero,List.setIfInBounds_toArray,List.set_cons_zero,List.set_cons_succ]
        refine wpAnyH_take (i:=14) (v:=.pointer (some ⟨g,o+v*4,none⟩)) rfl (by decide +kernel) (by decide +kernel) (by decide +kernel) (fun _ _ _ h=>h) (Or.inl ⟨by rfl,fun w' hS=>?_⟩) hS2 ?_
        ·go_simp
        try simp only[Act.put,List.getElem_toArray,List.getElem_cons_succ,List.getElem_cons_zero,List.setIfInBounds_toArray,List.set_cons_zero,List.set_cons_succ]
        refine wpAnyH_take (i:=15) (v:=.pointer (some ⟨g,o+v*4+1,none⟩)) rfl (by decide +kernel) (by decide +kernel) (by decide +kernel) (fun _ _ _ h=>h) (Or.inl ⟨by rfl,fun w' hS=>?_⟩) hS2 ?_
        ·go_simp
        try simp only[Act.put,List.getElem_toArray,List.getElem_cons_succ,List.getElem_cons_zero,List.setIfInBounds_toArray,List.set_cons_zero,List.set_cons_succ]
        refine wpAnyH_take (i:=16) (v:=.int .i64 yf) rfl (by decide +kernel) (by decide +kernel) (by decide +kernel) (fun _ _ _ h=>h) (Or.inl ⟨by rfl,fun w' hS=>?_⟩) hS2 ?_
        ·have c0:=tc w' hS _ _ v1;go_simp
        try simp only[Act.put,List.getElem_toArray,List.getElem_cons_succ,List.getElem_cons_zero,List.setIfInBounds_toArray,List.set_cons_zero,List.set_cons_succ]
        refine wpAnyH_take (i:=17) (v:=.slice (some ⟨ge,0,none⟩) L.length L.length) rfl (by decide +kernel) (by decide +kernel) (by decide +kernel) (fun _ _ _ h=>h) (Or.inl ⟨by rfl,fun w' hS=>?_⟩) hS2 ?_
        ·go_simp
        try simp only[Act.put,List.getElem_toArray,List.getElem_cons_succ,List.getElem_cons_zero,List.setIfInBounds_toArray,List.set_cons_zero,List.set_cons_succ]
        refine wpAnyH_take (i:=18) (v:=.pointer (some ⟨nb,3,none⟩)) rfl (by decide +kernel) (by decide +kernel) (by decide +kernel) (fun _ _ _ h=>h) (Or.inl ⟨by rfl,fun w' hS=>?_⟩) hS2 ?_
        ·go_simp
        try simp only[Act.put,List.getElem_toArray,List.getElem_cons_succ,List.getElem_cons_zero,List.setIfInBounds_toArray,List.set_cons_zero,List.set_cons_succ]
        refine wpAnyH_take (i:=19) (v:=.int .i64 (v:Int)) rfl (by decide +kernel) (by decide +kernel) (by decide +kernel) (fun _ _ _ h=>h) (Or.inl ⟨by rfl,fun w' hS=>?_⟩) hS2 ?_
        ·have c0:=tc w' hS _ _ b3;go_simp
        try simp only[Act.put,List.getElem_toArray,List.getElem_cons_succ,List.getElem_cons_zero,List.setIfInBounds_toArray,List.set_cons_zero,List.set_cons_succ]
        refine wpAnyH_take (i:=20) (v:=.pointer (some ⟨ge,v,none⟩)) rfl (by decide +kernel) (by decide +kernel) (by decide +kernel) (fun _ _ _ h=>h) (Or.inl ⟨by rfl,fun w' hS=>?_⟩) hS2 ?_
        ·go_simp
        try simp only[Act.put,List.getElem_toArray,List.getElem_cons_succ,List.getElem_cons_zero,List.setIfInBounds_toArray,List.set_cons_zero,List.set_cons_succ]
        refine wpAnyH_take (i:=21) (v:=.int .i64 en) rfl (by decide +kernel) (by decide +kernel) (by decide +kernel) (fun _ _ _ h=>h) (Or.inl ⟨by rfl,fun w' hS=>?_⟩) hS2 ?_
        ·have c0:=tc w' hS _ _ e1;go_simp
        try simp only[Act.put,List.getElem_toArray,List.getElem_cons_succ,List.getElem_cons_zero,List.setIfInBounds_toArray,List.set_cons_zero,List.set_cons_succ]
        refine wpAnyH_take (i:=22) (v:=.int .i64 (max yf en)) rfl (by decide +kernel) (by decide +kernel) (by decide +kernel) (fun _ _ _ h=>h) (Or.inl ⟨by rfl,fun w' hS=>?_⟩) hS2 ?_
        ·go_simp
        try simp only[Act.put,List.getElem_toArray,List.getElem_cons_succ,List.getElem_cons_zero,List.setIfInBounds_toArray,List.set_cons_zero,List.set_cons_succ]
        refine wpAnyH_take (i:=23) (v:=.bool false) rfl (by decide +kernel) (by decide +kernel) (by decide +kernel) (fun _ _ _ h=>h) (Or.inl ⟨by rfl,fun w' hS=>?_⟩) hS2 ?_
        ·go_simp
        try simp only[Act.put,List.getElem_toArray,List.getElem_cons_succ,List.getElem_cons_zero,List.setIfInBounds_toArray,List.set_cons_zero,List.set_cons_succ]
        refine wpAnyH_take (i:=24) (v:=.bool false) rfl (by decide +kernel) (by decide +kernel) (by decide +kernel) (fun _ _ _ h=>h) (Or.inl ⟨by rfl,fun w' hS=>?_⟩) hS2 ?_
        ·go_simp
        try simp only[Act.put,List.getElem_toArray,List.getElem_cons_succ,List.getElem_cons_zero,List.setIfInBounds_toArray,List.set_cons_zero,List.set_cons_succ]
        refine wpAnyH_take (i:=25) (v:=.bool false) rfl (by decide +kernel) (by decide +kernel) (by decide +kernel) (fun _ _ _ h=>h) (Or.inl ⟨by rfl,fun w' hS=>?_⟩) hS2 ?_
        ·go_simp
        try simp only[Act.put,List.getElem_toArray,List.getElem_cons_succ,List.getElem_cons_zero,List.setIfInBounds_toArray,List.set_cons_zero,List.set_cons_succ]
        refine wpAnyH_take (i:=26) (v:=.pointer (some ⟨nb,2,none⟩)) rfl (by decide +kernel) (by decide +kernel) (by decide +kernel) (fun _ _ _ h=>h) (Or.inl ⟨by rfl,fun w' hS=>?_⟩) hS2 ?_
        ·go_simp
        try simp only[Act.put,List.getElem_toArray,List.getElem_cons_succ,List.getElem_cons_zero,List.setIfInBounds_toArray,List.set_cons_zero,List.set_cons_succ]
        refine wpAnyH_take (i:=27) (v:=.int .i64 tt) rfl (by decide +kernel) (by decide +kernel) (by decide +kernel) (fun _ _ _ h=>h) (Or.inl ⟨by rfl,fun w' hS=>?_⟩) hS2 ?_
        ·have c0:=tc w' hS _ _ b2;go_simp
        try simp only[Act.put,List.getElem_toArray,List.getElem_cons_succ,List.getElem_cons_zero,List.setIfInBounds_toArray,List.set_cons_zero,List.set_cons_succ]
        refine wpAnyH_take (i:=28) (v:=.slice (some ⟨g,o,none⟩) L.length c) rfl (by decide +kernel) (by decide +kernel) (by decide +kernel) (fun _ _ _ h=>h) (Or.inl ⟨by rfl,fun w' hS=>?_⟩) hS2 ?_
        ·go_simp
        try simp only[Act.put,List.getElem_toArray,List.getElem_cons_succ,List.getElem_cons_zero,List.setIfInBounds_toArray,List.set_cons_zero,List.set_cons_succ]
        refine wpAnyH_take (i:=29) (v:=.pointer (some ⟨nb,3,none⟩)) rfl (by decide +kernel) (by decide +kernel) (by decide +kernel) (fun _ _ _ h=>h) (Or.inl ⟨by rfl,fun w' hS=>?_⟩) hS2 ?_
        ·go_simp
        try simp only[Act.put,List.getElem_toArray,List.getElem_cons_succ,List.getElem_cons_zero,List.setIfInBounds_toArray,List.set_cons_zero,List.set_cons_succ]
        refine wpAnyH_take (i:=30) (v:=.int .i64 (v:Int)) rfl (by decide +kernel) (by decide +kernel) (by decide +kernel) (fun _ _ _ h=>h) (Or.inl ⟨by rfl,fun w' hS=>?_⟩) hS2 ?_
        ·have c0:=tc w' hS _ _ b3;go_simp
        try simp only[Act.put,List.getElem_toArray,List.getElem_cons_succ,List.getElem_cons_zero,List.setIfInBounds_toArray,List.set_cons_zero,List.set_cons_succ]
        refine wpAnyH_take (i:=31) (v:=.pointer (some ⟨g,o+v*4,none⟩)) rfl (by decide +kernel) (by decide +kernel) (by decide +kernel) (fun _ _ _ h=>h) (Or.inl ⟨by rfl,fun w' hS=>?_⟩) hS2 ?_
        ·go_simp
        try simp only[Act.put,List.getElem_toArray,List.getElem_cons_succ,List.getElem_cons_zero,List.setIfInBounds_toArray,List.set_cons_zero,List.set_cons_succ]
        refine wpAnyH_take (i:=32) (v:=.pointer (some ⟨g,o+v*4+2,none⟩)) rfl (by decide +kernel) (by decide +kernel) (by decide +kernel) (fun _ _ _ h=>h) (Or.inl ⟨by rfl,fun w' hS=>?_⟩) hS2 ?_
        ·go_simp
        try simp only[Act.put,List.getElem_toArray,List.getElem_cons_succ,List.getElem_cons_zero,List.setIfInBounds_toArray,List.set_cons_zero,List.set_cons_succ]
        refine wpAnyH_take (i:=33) (v:=.int .i64 yt) rfl (by decide +kernel) (by decide +kernel) (by decide +kernel) (fun _ _ _ h=>h) (Or.inl ⟨by rfl,fun w' hS=>?_⟩) hS2 ?_
        ·have c0:=tc w' hS _ _ v2;go_simp
        try simp only[Act.put,List.getElem_toArray,List.getElem_cons_succ,List.getElem_cons_zero,List.setIfInBounds_toArray,List.set_cons_zero,List.set_cons_succ]
        refine wpAnyH_take (i:=34) (v:=.bool false) rfl (by decide +kernel) (by decide +kernel) (by decide +kernel) (fun _ _ _ h=>h) (Or.inl ⟨by rfl,fun w' hS=>?_⟩) hS2 ?_
        ·go_simp
        try simp only[Act.put,List.getElem_toArray,List.getElem_cons_succ,List.getElem_cons_zero,List.setIfInBounds_toArray,List.set_cons_zero,List.set_cons_succ]
        refine wpAnyH_take (i:=35) (v:=.bool false) rfl (by decide +kernel) (by decide +kernel) (by decide +kernel) (fun _ _ _ h=>h) (Or.inl ⟨by rfl,fun w' hS=>?_⟩) hS2 ?_
        ·go_simp
        try simp only[Act.put,List.getElem_toArray,List.getElem_cons_succ,List.getElem_cons_zero,List.setIfInBounds_toArray,List.set_cons_zero,List.set_cons_succ]
        refine wpAnyH_done (by decide +kernel) ?_ _;have kb:=HY.out.1.below H3.out HY.out.1.lt;have hen:=aN HY.out.2.2.1 H3.out;have f3:w3.frozen? ⟨ge,v,none⟩=false:=cQ hen v;have b2:w3.cell? ⟨nb,2,none⟩=some (.int .i64 tt):=by rw[kb.cell];rfl
        have b3:w3.cell? ⟨nb,3,none⟩=some (.int .i64 (v:Int)):=by rw[kb.cell];rfl
        have e1:w3.cell? ⟨ge,v,none⟩=some (.int .i64 en):=wj H3.out e1;have hst:=hen.stored v (.int .i64 tt);have hpx:(w3.setCell ⟨ge,v,none⟩ (.int .i64 tt)).ownsRow w.heap.size 3 1 (.slice (some ⟨gp,0,none⟩) (n+1) cp) (n+1) (vO (zs++[v])):=aT (aN HY.out.2.1 H3.out) (fun e=>HX.out.2.2 e) _;have hbz:Below w.heap.size w (w3.setCell ⟨ge,v,none⟩ (.int .i64 tt)):=Below.grown (HY.out.2.2.2.trans (H3.out.mono HY.out.2.2.2.size)) hst.2 (Nat.le_trans HY.out.2.2.2.size H3.out.size) (fun k hk=>by injection hk with hk;have:=(hen.lt ge rfl).1;omega);have HZ2:=Lib.hid (And.intro hst.1 (And.intro hpx hbz));clear kb hen hst hpx hbz b0 b1 v1 v2 hS1 hS2 tc hS0 t7 t8;go_upto_region 14 with fail
        clear f3 b2 b3 e1;generalize w3.setCell {block:=ge,off:=v} (Value.int IntKind.i64 tt)=W4 at *
        go_wp2_with (first
          | (at_builtin
             refine dE rfl (.tmp 116) (.tmp 118) 50 rfl w.heap.size 3 i0 _ 1 8 Tryz.underlying50 hi hz0 hz1 hz2 rfl (by decide) (.slice (some ⟨gp,0,none⟩) (n+1) cp) (n+1) (vO (zs++[v])) rfl (HZ2.out.2.1.alloc _) (.slice (some ⟨W4.heap.size,0,none⟩) 1 1) 1 (W4.heap.size+1) (vO [k]) rfl (eM W4 (vO [k]) 3 1 1 rfl (by omega)) (DU _) (by unfold maxLen;omega) (by omega) (by have:=HZ2.out.2.2.size;simp;omega) ?_;intro v6 w6 hown6 hg6 hv6;have H6:=Lib.hid (And.intro hown6 (And.intro hg6 hv6));clear hown6 hg6 hv6))
        obtain⟨hown6,hg6,hv6⟩:=H6.out;obtain⟨z1,z2,z3⟩:=HZ2.out;obtain⟨n1,_,_,_,_,_,_,_,n9,n10,n11⟩:=HN.out;have hz3:=z3.size;have hlz:=(z2.lt gp rfl).1;have hgg:ge≠gp:=fun e=>HX.out.2.2 (by rw[e];rfl)
        have hzw:=(z1.lt ge rfl).2;refine⟨⟨k+1,zs++[v],k,E.set v tt,by omega,by omega,by go_num,rfl,Pth.step HX.out.1 n9 n10 hvk,by rw[n11];exact n1,?_,?_,?_,?_⟩,by simp[intOf];omega⟩
        ·rw[←yQ,HNn.out] at hown6;rw[List.length_append,List.length_singleton];exact hown6
        ·rw[List.map_set];exact World.ownsRow.kept (z1.alloc _) hg6 (Or.inr (fun e=>hgg ((Option.some.injEq _ _).mp e)))
        ·rcases hv6 with e|e
         ·rw[e];exact HX.out.2.2
         ·rw[e];intro e2;have e3:=(Option.some.injEq _ _).mp e2;simp at e3;omega
        ·exact(z3.alloc hz3 _).grown hg6 (by simp;omega) (fun j hj=>(show gp=j by simpa [Value.ownBlock] using hj)▸hlz)
       ·obtain⟨zs0,u0,hzs,hP0,hA0,hlt0⟩:=hP.pop HC.out.2.2 hA hvu;have t1:((v:Int)!=(u:Int))=true:=by simp;omega
        obtain⟨n,hn⟩:∃n,n=zs.length:=⟨_,rfl⟩;have hnz:n=zs0.length+1:=by rw[hn,hzs,List.length_append];rfl
        have hp2:WA.ownsRow w.heap.size 3 1 (.slice (some ⟨gp,0,none⟩) n cp) n (vO zs):=by
          rw[yQ zs v,←hn] at hp;exact ownsRow_pop (by rw[hn];simp[vO]) hp
        rw[hzs,hnz] at hp2;have HX:=Lib.hid (And.intro hP0 (And.intro hA0 (And.intro hp2 (And.intro hne5 (And.intro hlt0 hnz)))));rw[←hn] at x1 hzl hcp1 ⊢;clear hP hA hp hne5 hP0 hA0 hp2 hzs hn hnz;have w1:IntKind.i64.wrap (n:Int)=(n:Int):=IntWalk.i64_in _ (by omega);have w2:IntKind.i64.wrap ((n:Int)+1-1)=(n:Int):=by rw[show (n:Int)+1-1=(n:Int) by omega];exact w1
        have w3:(n:Int)<(n:Int)+1:=by omega
        have w4:(0:Int)≤(n:Int):=by omega
        have w5:n<n+1:=by omega
        have w6:(n:Int)≤(cp:Int):=by omega
        go_wp2_with fail;go_quiet (fail);go_wp2_with fail;have hnz:=HX.out.2.2.2.2.2;exact⟨⟨zs0,u0,_,rfl,HX.out.1,HX.out.2.1,by have:=HX.out.2.2.2.2.1;omega,by rw[hnz];exact HX.out.2.2.1,HX.out.2.2.2.1⟩,by show n<n+1;omega⟩
    ·obtain rfl:k=L.length:=by omega
     have HE:=Lib.hid hb;clear hE hp hen hne5 hb hP;go_wp2_with fail;go_ret;exact⟨rfl,HE.out⟩
end Go.Proofs.YtfagdpfgifgnoaaGreatDoor
