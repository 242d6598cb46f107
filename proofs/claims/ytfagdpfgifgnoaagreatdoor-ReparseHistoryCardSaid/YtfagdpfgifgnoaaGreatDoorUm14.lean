/- Reparse: the maker's memory: its box, the leaves and the older nodes that it reads, the map, the nodes that it has made. -/
import Derived.Test.YtfagdpfgifgnoaaGreatDoorMb13
import Derived.Test.YtfagdpfgifgnoaaGreatDoorIm24
import Derived.Test.YtfagdpfgifgnoaaGreatDoorPm13
import Derived.Test.YtfagdpfgifgnoaaGreatDoorLf9
import Derived.Test.YtfagdpfgifgnoaaGreatDoorOd14
namespace Go.Proofs.YtfagdpfgifgnoaaGreatDoor
open Go.RowKit
set_option linter.unusedVariables false
set_option linter.unusedSimpArgs false
set_option maxRecDepth 100000
structure FuM (g:Nat) (W W':World):Prop where
  hb:Below g W W'
  kt:KT [65,49] W W'
theorem FuM.refl (g:Nat) (W:World):FuM g W W:=⟨Below.refl _ _,KT.refl _ _⟩
theorem FuM.trans {g:Nat} {a b c:World} (h:FuM g a b) (k:FuM g b c):FuM g a c:=⟨h.hb.trans k.hb,h.kt.trans k.kt⟩
theorem FuM.of {g:Nat} {W W':World} (hb:Below W.heap.size W W') (hg:g≤W.heap.size):FuM g W W':=⟨hb.mono hg,KT.of_below hb⟩
structure Uc where
  nv:Value
  ov:Value
  F:List Lf
  L:List Nd
  b:Nat
  mn:Nat
  f:Int→Int
  mo:Int
  hd:Nat
  tl:Nat
abbrev ubx (C:Uc) (lv:Value) (p kp:Nat):Array Value:=#[C.nv,C.ov,.int .i64 C.mo,.int .i64 (C.hd:Int),.int .i64 (C.tl:Int),.map (some C.b),lv,.int .i64 (p:Int),.int .i64 (kp:Int)]
structure Ul (g:Nat) (C:Uc) (r:List Nd) (p kp:Nat) (lv:Value) (W:World):Prop where
  w:Bk W g 65 (ubx C lv p kp)
  r:W.ownsRow g 49 4 lv r.length (dt r)
  f:Rd W g 4 C.nv C.F.length (fh C.F)
  o:Rd W g 4 C.ov C.L.length (dt C.L)
  m:IM W C.b C.mn C.f
  b:C.b<g
def Um (g:Nat) (C:Uc) (r:List Nd) (p kp:Nat) (W:World):Prop:=∃lv,Ul g C r p kp lv W
theorem Ul.next {g:Nat} {C:Uc} {r:List Nd} {p kp:Nat} {lv:Value} {W W':World} (h:Ul g C r p kp lv W) (hb:Below W.heap.size W W'):Ul g C r p kp lv W':=
  ⟨h.w.below hb h.w.lt,aN h.r hb,h.f.keep (hb.mono (Nat.le_of_lt h.w.lt)) (Nat.le_refl _),h.o.keep (hb.mono (Nat.le_of_lt h.w.lt)) (Nat.le_refl _),h.m.below hb,h.b⟩
theorem Um.next {g:Nat} {C:Uc} {r:List Nd} {p kp:Nat} {W W':World} (h:Um g C r p kp W) (hb:Below W.heap.size W W'):Um g C r p kp W':=by
  obtain⟨lv,h⟩:=h;exact⟨lv,h.next hb⟩
theorem ul_lt {g:Nat} {C:Uc} {r:List Nd} {p kp:Nat} {lv:Value} {W:World} (h:Ul g C r p kp lv W):g<W.heap.size:=h.w.lt
theorem fu_box {g:Nat} {W:World} {cs:Array Value} (h:Bk W g 65 cs) (i:Nat) (v:Value):FuM g W (W.setCell ⟨g,i,none⟩ v):=
  ⟨EB (Below.refl _ _) (aK (bT W (some g)) i v) (Nat.le_of_lt h.lt) (Nat.le_refl _),(KT.refl _ W).setCell h (by decide) i v⟩
theorem im_box {g b n:Nat} {f:Int→Int} {W W':World} (h:IM W b n f) (hb:b<g) (hW:Below g W W'):IM W' b n f:=h.kept (hW.block b hb)
theorem Ul.setP {g:Nat} {C:Uc} {r:List Nd} {p kp:Nat} {lv:Value} {W:World} (h:Ul g C r p kp lv W) (q:Nat):Ul g C r q kp lv (W.setCell ⟨g,7,none⟩ (.int .i64 (q:Int)))∧FuM g W (W.setCell ⟨g,7,none⟩ (.int .i64 (q:Int))):=
  have hb:=fu_box h.w 7 (.int .i64 (q:Int))
  ⟨⟨h.w.set 7 _,aT h.r (aL h.r h.w (by decide)) _,h.f.keep hb.hb (Nat.le_refl _),h.o.keep hb.hb (Nat.le_refl _),im_box h.m h.b hb.hb,h.b⟩,hb⟩
theorem Ul.setK {g:Nat} {C:Uc} {r:List Nd} {p kp:Nat} {lv:Value} {W:World} (h:Ul g C r p kp lv W) (q:Nat):Ul g C r p q lv (W.setCell ⟨g,8,none⟩ (.int .i64 (q:Int)))∧FuM g W (W.setCell ⟨g,8,none⟩ (.int .i64 (q:Int))):=
  have hb:=fu_box h.w 8 (.int .i64 (q:Int))
  ⟨⟨h.w.set 8 _,aT h.r (aL h.r h.w (by decide)) _,h.f.keep hb.hb (Nat.le_refl _),h.o.keep hb.hb (Nat.le_refl _),im_box h.m h.b hb.hb,h.b⟩,hb⟩
theorem Ul.setTo {g:Nat} {C:Uc} {r:List Nd} {p kp:Nat} {ga c n:Nat} {W:World} (h:Ul g C r p kp (.slice (some ⟨ga,0,none⟩) n c) W) (i t:Nat) (hi:i<r.length) :
    Ul g C (dh r i t) p kp (.slice (some ⟨ga,0,none⟩) n c) (W.setCell ⟨ga,i*4+2,none⟩ (.int .i64 (t:Int)))∧FuM g W (W.setCell ⟨ga,i*4+2,none⟩ (.int .i64 (t:Int))):=by
  have hne:ga≠g:=fun e=>aL h.r h.w (by decide) (by rw[e];rfl)
  obtain⟨e1,_,_,e4,e5⟩:=dc h.r;subst e1;have hh:=gJ h.r;have hs:=kC h.r (i*4+2) (.int .i64 (t:Int));rw[qa _ _ _ hi] at hs;have hg:=aK (bT W (some ga)) (i*4+2) (.int .i64 (t:Int));have hb:=EB (Below.refl _ _) hg (Nat.le_of_lt h.w.lt) e4;exact⟨⟨h.w.grown hg (fun e=>hne (by injection e with e;exact e.symm)),by show World.ownsRow _ _ _ _ _ (dh _ _ _).length _;rw[dr];exact hs,h.f.keep hb (Nat.le_refl _),h.o.keep hb (Nat.le_refl _),im_box h.m h.b hb,h.b⟩,hb,(KT.refl _ W).setCell hh (by decide) _ _⟩
theorem Ul.push {g:Nat} {C:Uc} {r:List Nd} {p kp:Nat} {lv v':Value} {x:Nd} {W W':World} (h:Ul g C r p kp lv W) (ho:W'.ownsRow g 49 4 v' (r.length+1) (dt r++dt [x])) (hg:W.grownBy W' lv.ownBlock) :
    Ul g C (r++[x]) p kp v' (W'.setCell ⟨g,6,none⟩ v')∧FuM g W (W'.setCell ⟨g,6,none⟩ v'):=by
  have k1:Bk W' g 65 _:=h.w.grown hg (fun e=>aL h.r h.w (by decide) e.symm);have hb1:FuM g W W':=⟨Below.grown (Below.refl _ _) hg (Nat.le_of_lt h.w.lt) (fun k hk=>(h.r.lt k hk).1),(KT.refl _ W).grown hg (fun k hk=>by obtain⟨cs,t,fr,e1,e2⟩:=ij h.r k hk;exact⟨cs,t,fr,e1,by rw[e2];decide⟩)⟩;have hb2:=fu_box k1 6 v';have hb:=hb1.trans hb2;rw[←rJ] at ho;refine⟨⟨k1.set 6 v',?_,h.f.keep hb.hb (Nat.le_refl _),h.o.keep hb.hb (Nat.le_refl _),im_box h.m h.b hb.hb,h.b⟩,hb⟩;show World.ownsRow _ _ _ _ _ (r++[x]).length _;rw[List.length_append];exact aT ho (aL ho k1 (by decide)) _
theorem Ul.cells {g:Nat} {C:Uc} {r:List Nd} {p kp:Nat} {lv:Value} {W:World} (h:Ul g C r p kp lv W) :
    W.cell? ⟨g,0,none⟩=some C.nv∧W.cell? ⟨g,1,none⟩=some C.ov∧W.cell? ⟨g,2,none⟩=some (.int .i64 C.mo)∧W.cell? ⟨g,3,none⟩=some (.int .i64 (C.hd:Int))∧W.cell? ⟨g,4,none⟩=some (.int .i64 (C.tl:Int))∧W.cell? ⟨g,5,none⟩=some (.map (some C.b))∧W.cell? ⟨g,6,none⟩=some lv∧W.cell? ⟨g,7,none⟩=some (.int .i64 (p:Int))∧W.cell? ⟨g,8,none⟩=some (.int .i64 (kp:Int)):=
  ⟨h.w.cell 0,h.w.cell 1,h.w.cell 2,h.w.cell 3,h.w.cell 4,h.w.cell 5,h.w.cell 6,h.w.cell 7,h.w.cell 8⟩
end Go.Proofs.YtfagdpfgifgnoaaGreatDoor
namespace Go.Proofs.YtfagdpfgifgnoaaGreatDoor
open Go.RowKit
set_option linter.unusedVariables false
set_option linter.unusedSimpArgs false
set_option maxRecDepth 100000
def alT (x y:Lf):Bool:=x.kd==y.kd&&x.tx==y.tx
theorem alike_m (x y:Lf) (w:World):Calls Tryz.prog 49 #[GB x,GB y] w fun e w'=>e=.returned (.bool (alT x y))∧Below w.heap.size w w':=by
  obtain⟨xk,xt,xf,xo⟩:=x;obtain⟨yk,yt,yf,yo⟩:=y;unfold GB alT;simp only;have key:∀b:Bool,((xk==yk&&xt==yt)=b)→Calls Tryz.prog 49 #[.agg #[.int .i64 xk,.string ⟨xt.toArray⟩,.int .i64 xf,.int .i64 xo],.agg #[.int .i64 yk,.string ⟨yt.toArray⟩,.int .i64 yf,.int .i64 yo]] w fun e w'=>e=.returned (.bool b)∧Below w.heap.size w w':=fun b hb=>by
    by_cases h1:xk=yk
    ·subst h1;by_cases h2:xt=yt
     ·subst h2;obtain rfl:b=true:=by rw[←hb];simp
      clear hb;go_enter Tryz.func49,Tryz.ntmps49;go_wp2;go_ret;exact⟨rfl,((Below.refl _ w).alloc (Nat.le_refl _) _).alloc (by simp) _⟩
     ·obtain rfl:b=false:=by rw[←hb];simp[h2]
      have t1:(xt==yt)=false:=beq_false_of_ne h2;clear hb;go_enter Tryz.func49,Tryz.ntmps49;go_wp2;go_ret;exact⟨rfl,((Below.refl _ w).alloc (Nat.le_refl _) _).alloc (by simp) _⟩
    ·obtain rfl:b=false:=by rw[←hb];simp[h1]
     have t1:(xk==yk)=false:=beq_false_of_ne h1;clear hb;go_enter Tryz.func49,Tryz.ntmps49;go_wp2;go_ret;exact⟨rfl,((Below.refl _ w).alloc (Nat.le_refl _) _).alloc (by simp) _⟩
  exact key _ rfl
end Go.Proofs.YtfagdpfgifgnoaaGreatDoor
namespace Go.Proofs.YtfagdpfgifgnoaaGreatDoor
open Go.RowKit
set_option linter.unusedVariables false
set_option linter.unusedSimpArgs false
set_option maxRecDepth 100000
set_option maxHeartbeats 1000000 in
theorem usign_m {g:Nat} {C:Uc} {r:List Nd} {p kp:Nat} {lv:Value} {W:World} (hF:FB C.F) (h:Ul g C r p kp lv W) (hp:p≤C.F.length) :
    Calls Tryz.prog 52 #[.pointer (some ⟨g,0,none⟩)] W fun e w'=>e=.returned (.int .u8 ((sg C.F p).toNat:Int))∧Below W.heap.size W w':=by
  obtain⟨c0,_,_,_,_,_,_,c7,_⟩:=h.cells;have hfr:=h.f;obtain⟨nv,ov,F,L,b,mn,f,mo,hd,tl⟩:=C;simp only at c0 c7 hfr hF hp ⊢;obtain⟨A,c,rfl⟩:=hfr.formm;have hn:=hF.n;by_cases hlt:p<F.length
  ·obtain⟨x,hx⟩:∃x,F[p]? = some x:=⟨_,List.getElem?_eq_getElem hlt⟩;have hsg:sg F p=sV x:=by unfold sg;rw[hx]
   obtain⟨g1,o1,rfl,y0,y1,y2,y3⟩:=fO hfr hx rfl;have u1:(p:Int)<(F.length:Int):=by omega
   have u2:(0:Int)≤(p:Int):=by omega
   have d1:decide ((F.length:Int)≤(p:Int))=false:=decide_eq_false (by omega);have HX:=Lib.hid (And.intro hsg (hF.t x (List.mem_of_getElem? hx)));clear hsg hx hfr hn hp h hF;rw[HX.out.1];go_enter Tryz.func52,Tryz.ntmps52;go_wp2;go_quiet (fail);go_wp2;have c0':(W.drewN nq).cell? ⟨g,0,none⟩=some (.slice (some ⟨g1,o1,none⟩) F.length c):=c0;have c7':(W.drewN nq).cell? ⟨g,7,none⟩=some (.int .i64 (p:Int)):=c7;have y0':(W.drewN nq).cell? ⟨g1,o1+p*4,none⟩=some (.int .i64 x.kd):=y0;have y1':(W.drewN nq).cell? ⟨g1,o1+p*4+1,none⟩=some (.string ⟨x.tx.toArray⟩):=y1;have y2':(W.drewN nq).cell? ⟨g1,o1+p*4+2,none⟩=some (.int .i64 x.fr):=y2;have y3':(W.drewN nq).cell? ⟨g1,o1+p*4+3,none⟩=some (.int .i64 x.to):=y3;have hb0:Below W.heap.size W (W.drewN nq):=ae (Below.refl _ W) nq;clear c0 c7 y0 y1 y2 y3;generalize W.drewN nq=W1 at *
   go_region_held3 (fun w'=>w'.cell? ⟨g,0,none⟩=some (.slice (some ⟨g1,o1,none⟩) F.length c)∧w'.cell? ⟨g,7,none⟩=some (.int .i64 (p:Int))∧w'.cell? ⟨g1,o1+p*4,none⟩=some (.int .i64 x.kd)∧w'.cell? ⟨g1,o1+p*4+1,none⟩=some (.string ⟨x.tx.toArray⟩)∧w'.cell? ⟨g1,o1+p*4+2,none⟩=some (.int .i64 x.fr)∧w'.cell? ⟨g1,o1+p*4+3,none⟩=some (.int .i64 x.to))
    (first|with_reducible exact⟨c0',c7',y0',y1',y2',y3'⟩|exact⟨c0',c7',y0',y1',y2',y3'⟩)
    (
     (go_at_call 74;refine(Dw x _ (by have:=HX.out.2;omega)).mono ?_;rintro e w2 ⟨rfl,hb2⟩;have H2:=Lib.hid (hb0.trans (((Below.refl _ W1).drew.trans hb2).mono hb0.size));have c0':=wj hb2 c0';have c7':=wj hb2 c7';have y0':=wj hb2 y0';have y1':=wj hb2 y1';have y2':=wj hb2 y2';have y3':=wj hb2 y3';clear hb2))
   go_wp2;go_ret;exact⟨rfl,H2.out⟩
  ·have hsg:sg F p=0:=by unfold sg;rw[List.getElem?_eq_none (by omega)]
   have d1:(F.length:Int)≤(p:Int):=by omega
   rw[hsg];clear hfr hn hp h hsg hF;go_enter Tryz.func52,Tryz.ntmps52;go_wp2;go_quiet (fail);go_wp2;go_ret;exact⟨rfl,ae (Below.refl _ W) nq⟩
set_option maxHeartbeats 2000000 in
theorem ulines_m {g:Nat} {C:Uc} {r:List Nd} {p kp:Nat} {W:World} (hF:FB C.F) (h:Um g C r p kp W) (hp:p≤C.F.length) :
    Calls Tryz.prog 29 #[.pointer (some ⟨g,0,none⟩)] W fun e w'=>∃q:Nat,p≤q∧q≤C.F.length∧(∀i,p≤i→i<q→sg C.F i=110)∧sg C.F q≠110∧e=.returned (.bool (decide (p<q)))∧Um g C r q kp w'∧FuM g W w':=by
  obtain⟨lv,h⟩:=h;obtain⟨_,_,_,_,_,_,_,c7,_⟩:=h.cells;have hn:=hF.n;have gl:=h.w.lt;have H:=Lib.hid (And.intro hF h);clear hF h;go_enter Tryz.func29,Tryz.ntmps29;go_wp2_with fail;clear c7;go_loopw [] (fun wr=>∃q:Nat,p≤q∧q≤C.F.length∧(∀i,p≤i→i<q→sg C.F i=110)∧Ul g C r q kp lv wr∧FuM g W wr) (fun wr=>C.F.length-(match wr.cell? ⟨g,7,none⟩ with|some (.int _ z)=>z.toNat|_=>0))
  case atStart=>exact⟨p,Nat.le_refl _,hp,fun i h1 h2=>by omega,H.out.2,FuM.refl _ _⟩
  case round=>
    obtain⟨q,hq1,hq2,hnl,hU,hb⟩:=hrel;obtain⟨_,_,_,_,_,_,_,c7,_⟩:=hU.cells;have cs:=usign_m H.out.1 hU hq2;obtain⟨z,hz⟩:∃z,z=sg C.F q:=⟨_,rfl⟩;rw[←hz] at cs;have k0:((z.toNat:Int)==110)=(z==110):=gZ z 110;by_cases h1:z=110
    ·have t1:((z.toNat:Int)==110)=true:=by rw[h1];rfl
     have hlt:q<C.F.length:=qN (by rw[←hz,h1];decide);have HS:=Lib.hid (And.intro cs (And.intro hU (And.intro hb (And.intro hnl (hz.symm.trans h1)))));clear cs hU hb hnl hz k0 h1;go_wp2_with (
       (go_at_call 52;with_reducible refine HS.out.1.mono ?_
        rintro e w2 ⟨rfl,hb2⟩;have hU2:=HS.out.2.1.next hb2;have hb2':=HS.out.2.2.1.trans (FuM.of hb2 (Nat.le_of_lt HS.out.2.1.w.lt));have hs2:=hU2.setP (q+1);rw[show ((q+1:Nat):Int)=(q:Int)+1 by omega] at hs2;obtain⟨_,_,_,_,_,_,_,c7,_⟩:=hU2.cells;have fz7:=hU2.w.frozen 7;have H2:=Lib.hid (And.intro hs2 hb2');clear hb2 hU2 hb2' hs2))
     have c7':=H2.out.1.1.cells.2.2.2.2.2.2.2.1;refine⟨⟨q+1,by omega,by omega,fun i h1 h2=>?_,H2.out.1.1,H2.out.2.trans H2.out.1.2⟩,?_⟩
     ·rcases Nat.lt_or_ge i q with h3|h3
      ·exact HS.out.2.2.2.1 i h1 h3
      ·obtain rfl:i=q:=by omega
       exact HS.out.2.2.2.2
     ·rw[HS.out.2.1.cells.2.2.2.2.2.2.2.1,show (w2.setCell ⟨g,7,none⟩ (.int .i64 ((q:Int)+1))).cell? ⟨g,7,none⟩=some (.int .i64 ((q+1:Nat):Int)) from c7'];show C.F.length-((q+1:Nat):Int).toNat<C.F.length-((q:Nat):Int).toNat;rw[Int.toNat_natCast,Int.toNat_natCast];omega
    ·have t1:((z.toNat:Int)==110)=false:=by rw[k0];exact beq_false_of_ne h1
     have HS:=Lib.hid (And.intro cs (And.intro hU (And.intro hb (And.intro hnl (fun e:sg C.F q=110=>h1 (hz.trans e))))));clear cs hU hb hnl hz k0 h1;go_wp2_with (
       (go_at_call 52;with_reducible refine HS.out.1.mono ?_
        rintro e w2 ⟨rfl,hb2⟩;have hU2:=HS.out.2.1.next hb2;have hb2':=HS.out.2.2.1.trans (FuM.of hb2 (Nat.le_of_lt HS.out.2.1.w.lt));obtain⟨_,_,_,_,_,_,_,c7,_⟩:=hU2.cells;have H2:=Lib.hid (And.intro hU2 hb2');clear hb2 hU2 hb2'))
     go_ret;exact⟨q,hq1,hq2,HS.out.2.2.2.1,HS.out.2.2.2.2,by first|rfl|simp,⟨lv,H2.out.1⟩,H2.out.2⟩
end Go.Proofs.YtfagdpfgifgnoaaGreatDoor
namespace Go.Proofs.YtfagdpfgifgnoaaGreatDoor
open Go.RowKit
set_option linter.unusedVariables false
set_option linter.unusedSimpArgs false
set_option maxRecDepth 100000
theorem one_nds (L:List Nd):∀u∈dt L,u.oneCell'=true:=by
  intro u hu;obtain⟨x,_,h⟩:=List.mem_flatMap.1 hu;simp only[EA,List.mem_cons,List.not_mem_nil,or_false] at h;rcases h with rfl|rfl|rfl|rfl<;>rfl
theorem one_lfs (L:List Lf):∀u∈fh L,u.oneCell'=true:=by
  intro u hu;obtain⟨x,_,h⟩:=List.mem_flatMap.1 hu;simp only[Gm,List.mem_cons,List.not_mem_nil,or_false] at h;rcases h with rfl|rfl|rfl|rfl<;>rfl
set_option maxHeartbeats 1000000 in
theorem clonen_m (L:List Nd) (A:Option Addr) (n c:Nat) (w:World) (hn:n=L.length) (h:Rd w w.heap.size 4 (.slice A n c) n (dt L)) (hl:n≤100000) :
    Calls Tryz.prog 44 #[.slice A n c] w fun e w'=>∃v,e=.returned v∧w'.ownsRow w.heap.size 49 4 v n (dt L)∧Below w.heap.size w w':=by
  have hnil:=fun (W:World)=>Lib.run_eql_slice_nil (P:=Tryz.prog) W
  cases A with
  | none=>
    obtain⟨h1,A',c',h2,h3,h4,h5,h6⟩:=h
    cases h2;have hc:=h5 rfl;subst hc;obtain rfl:n=0:=by omega
    obtain rfl:L=[]:=List.eq_nil_of_length_eq_zero hn.symm;clear h1 h4 h5 h6 h3 hn hl;go_enter Tryz.func44,Tryz.ntmps44;go_wp2;go_ret;exact⟨_,rfl,⟨rfl,.inl ⟨rfl,rfl⟩⟩,Below.refl _ _⟩
  | some A=>
    obtain⟨i0,hi,hz0,hz1,hz2⟩:=info_parts Tryz.infoNode;have H:=Lib.hid h;clear h;go_enter Tryz.func44,Tryz.ntmps44
    go_wp2_with (first
      | (at_builtin
         refine dE rfl (.tmp 5) (.tmp 6) 25 rfl w.heap.size 49 i0 _ 4 32 Tryz.underlying25 hi hz0 hz1 hz2 rfl (by decide) (.slice (some ⟨w.heap.size,0,none⟩) 0 0) 0 [] rfl (World.ownsRow_made _ _ _ (Nat.le_refl _) (by unfold maxLen;omega) (by simp)) (.slice (some A) n c) n w.heap.size (dt L) rfl (H.out.keep (by go_grown) (Nat.le_refl _)) (one_nds L) (by unfold maxLen;omega) (by omega) (by simp) ?_;intro v1 w1 hown1 hg1 hv1))
    go_ret;exact⟨v1,rfl,by simpa using hown1,((Below.refl _ _).alloc (Nat.le_refl _) _).grown hg1 (by simp) (by intro k hk;simp[Value.ownBlock] at hk;omega)⟩
set_option maxHeartbeats 1000000 in
theorem clonel_m (L:List Lf) (A:Option Addr) (n c:Nat) (w:World) (hn:n=L.length) (h:Rd w w.heap.size 4 (.slice A n c) n (fh L)) (hl:n≤100000) :
    Calls Tryz.prog 48 #[.slice A n c] w fun e w'=>∃v,e=.returned v∧w'.ownsRow w.heap.size 61 4 v n (fh L)∧Below w.heap.size w w':=by
  have hnil:=fun (W:World)=>Lib.run_eql_slice_nil (P:=Tryz.prog) W
  cases A with
  | none=>
    obtain⟨h1,A',c',h2,h3,h4,h5,h6⟩:=h
    cases h2;have hc:=h5 rfl;subst hc;obtain rfl:n=0:=by omega
    obtain rfl:L=[]:=List.eq_nil_of_length_eq_zero hn.symm;clear h1 h4 h5 h6 h3 hn hl;go_enter Tryz.func48,Tryz.ntmps48;go_wp2;go_ret;exact⟨_,rfl,⟨rfl,.inl ⟨rfl,rfl⟩⟩,Below.refl _ _⟩
  | some A=>
    obtain⟨i0,hi,hz0,hz1,hz2⟩:=info_parts Tryz.infoLeaf;have H:=Lib.hid h;clear h;go_enter Tryz.func48,Tryz.ntmps48
    go_wp2_with (first
      | (at_builtin
         refine dE rfl (.tmp 5) (.tmp 6) 22 rfl w.heap.size 61 i0 _ 4 40 Tryz.underlying22 hi hz0 hz1 hz2 rfl (by decide) (.slice (some ⟨w.heap.size,0,none⟩) 0 0) 0 [] rfl (World.ownsRow_made _ _ _ (Nat.le_refl _) (by unfold maxLen;omega) (by simp)) (.slice (some A) n c) n w.heap.size (fh L) rfl (H.out.keep (by go_grown) (Nat.le_refl _)) (one_lfs L) (by unfold maxLen;omega) (by omega) (by simp) ?_;intro v1 w1 hown1 hg1 hv1))
    go_ret;exact⟨v1,rfl,by simpa using hown1,((Below.refl _ _).alloc (Nat.le_refl _) _).grown hg1 (by simp) (by intro k hk;simp[Value.ownBlock] at hk;omega)⟩
theorem is14_m (i n c:Nat) (A:Option Addr) (h:i<n) (hn:n≤100000) (w:World):Calls Tryz.prog 111 #[.slice A n c,.int .i64 (i:Int)] w fun e w'=>e=.returned (.bool true)∧w'=w:=by
  have u1:(0:Int)≤(i:Int):=by omega
  have u2:(i:Int)<(n:Int):=by omega
  go_enter Tryz.func111,Tryz.ntmps111;go_wp2;go_ret;exact⟨rfl,rfl⟩
set_option maxHeartbeats 2000000 in
theorem tend_m (L:List Nd) (i n c:Nat) (A:Option Addr) (w:World) (hL:L.length≤90000) (h1:1≤n) (hle:i+n≤L.length) (hin:∀j,1≤j→j<n→∃y,L[i+j]? = some y∧(i:Int)≤y.up) (hnx:∀z,L[i+n]? = some z→z.up<(i:Int)) (hr:Rd w w.heap.size 4 (.slice A L.length c) L.length (dt L)) :
    Calls Tryz.prog 112 #[.slice A L.length c,.int .i64 (i:Int)] w fun e w'=>e=.returned (.int .i64 ((i+n:Nat):Int))∧w'=w:=by
  have ci:=is14_m i L.length c A (by omega) (by omega);have H:=Lib.hid (And.intro hin (And.intro hnx (And.intro hr ci)));clear hin hnx hr ci;go_enter Tryz.func112,Tryz.ntmps112;go_wp2_with (
    (go_at_call 111;refine(H.out.2.2.2 _).mono ?_;rintro e w1 ⟨rfl,rfl⟩))
  go_loopw [5] (fun k wr=>∃q:Nat,i+1≤q∧q≤i+n∧k=.int .i64 (q:Int)∧wr=w1) (fun k _=>L.length-(intOf k).toNat)
  case atStart=>exact⟨i+1,Nat.le_refl _,by omega,by go_num,rfl⟩
  case round=>
    obtain⟨q,hj1,hj2,rfl,hw⟩:=hrel;obtain rfl:=hw.symm;by_cases hlt:q<i+n
    ·obtain⟨y,hy,hup⟩:=H.out.1 (q-i) (by omega) (by omega);rw[show i+(q-i)=q by omega] at hy;obtain⟨g,o,rfl,_,hc⟩:=bS de H.out.2.2.1 hy rfl;have y3:w1.cell? ⟨g,o+q*4+3,none⟩=some (.int .i64 y.up):=hc 3 _ rfl;have u1:(q:Int)<(L.length:Int):=by omega
     have u2:(0:Int)≤(q:Int):=by omega
     have t1:decide ((i:Int)≤y.up)=true:=decide_eq_true hup;clear hc hy hup;go_wp2_with fail;exact⟨⟨q+1,by omega,by omega,by go_num,trivial⟩,by simp[intOf];omega⟩
    ·have e:q=i+n:=by omega
     have HQ:=Lib.hid e;by_cases hql:q<L.length
     ·obtain⟨z,hz⟩:∃z,L[q]? = some z:=⟨_,List.getElem?_eq_getElem hql⟩;have hup:=H.out.2.1 z (by rw[←e];exact hz);obtain⟨g,o,rfl,_,hc⟩:=bS de H.out.2.2.1 hz rfl;have y3:w1.cell? ⟨g,o+q*4+3,none⟩=some (.int .i64 z.up):=hc 3 _ rfl;have u1:(q:Int)<(L.length:Int):=by omega
      have u2:(0:Int)≤(q:Int):=by omega
      have t1:decide ((i:Int)≤z.up)=false:=decide_eq_false (by omega);clear hc hz hup e;go_wp2_with fail;go_ret;exact⟨by show Ending.returned (.int .i64 (q:Int))=_;congr 2;have:=HQ.out;omega,rfl⟩
     ·have u1:¬(q:Int)<(L.length:Int):=by omega
      clear e;go_wp2_with fail;go_ret;exact⟨by show Ending.returned (.int .i64 (q:Int))=_;congr 2;have:=HQ.out;omega,rfl⟩
def shU (i:Nat) (x:Nd):Nd:=⟨x.kd,x.fr,x.tt,x.up-(i:Int)⟩
theorem nds_get {ys:List Nd} {k:Nat} {q:Nd} (h:ys[k]? = some q) (j:Nat) (hj:j<4):(dt ys)[k*4+j]? = (EA q)[j]? := by
  obtain⟨hk,rfl⟩:=List.getElem?_eq_some_iff.1 h;have e:ys=ys.take k++(ys[k]::ys.drop (k+1)):=by rw[←List.drop_eq_getElem_cons hk,List.take_append_drop]
  have hl:(dt (ys.take k)).length=k*4:=by rw[yB,List.length_take];omega
  rw[show dt ys=dt (ys.take k)++(EA ys[k]++dt (ys.drop (k+1))) by (conv=>lhs;rw[e,rJ]);rfl];rw[List.getElem?_append_right (by omega),hl,show k*4+j-k*4=j by omega,List.getElem?_append_left (by rw[de];exact hj)]
theorem nds_put {i:Nat} {ys:List Nd} {k:Nat} {q:Nd} (h:ys[k]? = some q):(dt ((ys.take k).map (shU i)++ys.drop k)).set (k*4+3) (.int .i64 (q.up-(i:Int)))=dt ((ys.take (k+1)).map (shU i)++ys.drop (k+1)):=by
  obtain⟨hk,rfl⟩:=List.getElem?_eq_some_iff.1 h;have hl:(dt ((ys.take k).map (shU i))).length=k*4:=by rw[yB,List.length_map,List.length_take];omega
  rw[List.drop_eq_getElem_cons hk,rJ,List.set_append_right _ _ (by omega),hl,show k*4+3-k*4=3 by omega,
    List.take_succ_eq_append_getElem hk,List.map_append,List.append_assoc,rJ]
  rfl
end Go.Proofs.YtfagdpfgifgnoaaGreatDoor
namespace Go.Proofs.YtfagdpfgifgnoaaGreatDoor
open Go.RowKit
set_option linter.unusedVariables false
set_option linter.unusedSimpArgs false
set_option maxRecDepth 100000
structure SubR (L S:List Nd) (i:Nat):Prop where
  le:i+S.length≤L.length
  pos:0<S.length
  row:∀(j:Nat) (x:Nd),S[j]? = some x→∃y,L[i+j]? = some y∧y.kd=x.kd∧y.fr=x.fr∧y.tt=x.tt∧(0<j→0≤x.up∧y.up=x.up+(i:Int))∧(j=0→x.up = -1)
  nxt:∀z,L[i+S.length]? = some z→z.up<(i:Int)
theorem SubR.mid {L S:List Nd} {i:Nat} (h:SubR L S i):((L.drop i).take S.length).length=S.length:=by
  rw[List.length_take,List.length_drop];have:=h.le;omega
theorem SubR.get {L S:List Nd} {i j:Nat} (hj:j<S.length):((L.drop i).take S.length)[j]? = L[i+j]? := by
  rw[List.getElem?_take_of_lt hj,List.getElem?_drop]
theorem SubR.fin {L S:List Nd} {i:Nat} (h:SubR L S i):(dt (((L.drop i).take S.length).map (shU i))).set 3 (.int .i64 (-1))=dt S:=by
  have key:∀j,0<j→j<S.length→(((L.drop i).take S.length).map (shU i))[j]? = S[j]? := fun j h0 hj=>by
    obtain⟨x,hx⟩:∃x,S[j]? = some x:=⟨_,List.getElem?_eq_getElem hj⟩;obtain⟨y,h1,h2,h3,h4,h5,_⟩:=h.row j x hx;rw[List.getElem?_map,SubR.get hj,h1,hx];obtain⟨_,h6⟩:=h5 h0;show some (shU i y)=some x;unfold shU;rw[h2,h3,h4,h6];congr 1;obtain⟨a,b,c,d⟩:=x;simp
  have hlen:(((L.drop i).take S.length).map (shU i)).length=S.length:=by rw[List.length_map];exact h.mid
  cases hS:S with
  | nil=>have:=h.pos;rw[hS] at this;simp at this
  | cons x r=>
    obtain⟨y,h1,h2,h3,h4,_,h6⟩:=h.row 0 x (by rw[hS];rfl);have e:((L.drop i).take S.length).map (shU i)=shU i y::r:=by
      apply List.ext_getElem?;intro j;rcases Nat.lt_or_ge j S.length with hj|hj
      ·cases j with
       | zero=>rw[List.getElem?_map,SubR.get hj,h1];rfl
       | succ j=>rw[key (j+1) (by omega) hj,hS];rfl
      ·rw[List.getElem?_eq_none (by omega),List.getElem?_eq_none (by rw[hS] at hj;simpa using hj)]
    rw[←hS,e];show (EA (shU i y)++dt r).set 3 _=_;rw[hS];show _=EA x++dt r;rw[List.set_append_left _ _ (by rw[de];omega)];congr 1;have h7:=h6 rfl;obtain⟨a,b,c,d⟩:=x;simp only at h2 h3 h4 h7;subst h7;unfold EA shU;simp only[h2,h3,h4];rfl
set_option maxHeartbeats 4000000 in
theorem sub_m (L S:List Nd) (i c:Nat) (A:Option Addr) (w:World) (hL:L.length≤90000) (h:SubR L S i) (hup:∀x∈L, -1≤x.up∧x.up≤100000) (hr:Rd w w.heap.size 4 (.slice A L.length c) L.length (dt L)) :
    Calls Tryz.prog 99 #[.slice A L.length c,.int .i64 (i:Int)] w fun e w'=>∃v,e=.returned v∧w'.ownsRow w.heap.size 49 4 v S.length (dt S)∧Below w.heap.size w w':=by
  obtain⟨n,hn⟩:∃n,n=S.length:=⟨_,rfl⟩;have hle:=h.le;have hpos:=h.pos;have hfin:=h.fin;have hmid:=h.mid;have ce:=tend_m L i S.length c A w hL hpos hle (fun j h1 h2=>by
    obtain⟨y,e1,_,_,_,e2,_⟩:=h.row j _ (List.getElem?_eq_getElem h2);exact⟨y,e1,by have:=e2 h1;omega⟩) h.nxt hr
  obtain⟨M,hM⟩:∃M,M=(L.drop i).take S.length:=⟨_,rfl⟩;rw[←hM] at hfin hmid;rw[←hn] at hle hpos hmid ce hM ⊢;have ci:=is14_m i L.length c A (by omega) (by omega);obtain⟨x0,hx0⟩:∃x,L[i]? = some x:=⟨_,List.getElem?_eq_getElem (by omega)⟩;obtain⟨g,o,rfl,hgl,_⟩:=bS de hr hx0 rfl;obtain⟨q1,q2⟩:L.length≤c∧c≤maxLen:=by
    obtain⟨_,A',c',e,e1,e2,_⟩:=hr
    cases e;exact⟨e1,e2⟩
  have hrm:Rd w w.heap.size 4 (.slice (some ⟨g,o+i*4,none⟩) n (c-i)) n (dt M):=by
    obtain⟨e1,A',c',e2,e3,e4,e5,e6⟩:=hr
    cases e2;obtain⟨_,_,e7,_,e8⟩:=e6 (by omega)
    cases e7;refine⟨by rw[yB,hmid],some ⟨g,o+i*4,none⟩,c-i,rfl,by omega,by omega,(fun h=>by cases h),fun _=>⟨g,o+i*4,rfl,hgl,fun j u hj=>?_⟩⟩;have hjl:j<n*4:=by have:=(List.getElem?_eq_some_iff.1 hj).1;rw[yB,hmid] at this;exact this
    obtain⟨x,hx⟩:∃x,M[j/4]? = some x:=⟨_,List.getElem?_eq_getElem (by omega)⟩;have hx2:L[i+j/4]? = some x:=by
      rw[hM] at hx;rw[hn] at hjl;rw[hn,SubR.get (by omega)] at hx;exact hx
    have h1:=nds_get hx (j%4) (Nat.mod_lt _ (by omega));rw[show j/4*4+j%4=j by omega,hj] at h1;have h2:=nds_get hx2 (j%4) (Nat.mod_lt _ (by omega));rw[←h1] at h2
    have:=e8 _ _ h2
    rwa [show o+((i+j/4)*4+j%4)=o+i*4+j by omega] at this
  have u3:(i:Int)+(n:Int)≤(c:Int):=by omega
  have u4:(0:Int)≤(i:Int):=by omega
  have u5:¬c=i:=by omega
  have hupM:∀(k:Nat) (q:Nd),M[k]? = some q → -1≤q.up∧q.up≤100000:=fun k q hq=>hup q (by
    have:=List.mem_of_getElem? hq
    rw[hM] at this;exact List.mem_of_mem_drop (List.mem_of_mem_take this))
  have HM:=Lib.hid hmid.symm;have HU:=Lib.hid hupM;clear hupM hup;have H:=Lib.hid (And.intro ce (And.intro ci (And.intro hrm (And.intro hfin hr))));clear ce ci hrm hfin hr hM hx0 h hn hmid;go_enter Tryz.func99,Tryz.ntmps99
  go_wp2_with (first
    | (go_at_call 111;with_reducible refine(H.out.2.1 _).mono ?_
       rintro e w1 ⟨rfl,rfl⟩)
    | (go_at_call 112;with_reducible refine(H.out.1).mono ?_
       rintro e w1 ⟨rfl,rfl⟩)
    | (go_at_call 44;with_reducible refine(clonen_m M (some ⟨g,o+i*4,none⟩) n (c-i) _ HM.out H.out.2.2.1 (by omega)).mono ?_
       rintro e w2 ⟨v2,rfl,ho,hb⟩;obtain⟨A2,n2,c2,rfl⟩:=az ho;obtain rfl:=bN ho;obtain⟨g2,rfl⟩:=ly ho hpos;have H2:=Lib.hid (And.intro ho hb);clear ho hb)
    | fail)
  go_loopw [20] (fun s20 wr=>∃k:Nat,k≤n2∧s20=.int .i64 (k:Int)∧wr.ownsRow w1.heap.size 49 4 (.slice (some ⟨g2,0,none⟩) n2 c2) n2 (dt ((M.take k).map (shU i)++M.drop k))∧Below w1.heap.size w1 wr) (fun s20 _=>n2-(intOf s20).toNat)
  case atStart=>exact⟨0,Nat.zero_le _,rfl,H2.out.1,H2.out.2⟩
  case round=>
    obtain⟨k,hk,rfl,hown,hbl⟩:=hrel;by_cases hlt:k<n2
    ·have u1:(k:Int)<(n2:Int):=by omega
     have u2:(0:Int)≤(k:Int):=by omega
     obtain⟨q,hqk⟩:∃q,M[k]? = some q:=⟨_,List.getElem?_eq_getElem (by have:=HM.out;omega)⟩;have hq9:=HU.out k q hqk;have hput:=nds_put (i:=i) hqk;have hg2:((M.take k).map (shU i)++M.drop k)[k]? = some q:=by
       rw[List.getElem?_append_right (by simp;omega)]
       have:=HM.out
       simp[List.getElem?_drop,hqk,Nat.min_eq_left (show k≤M.length by omega)]
     have y1:wr.cell? ⟨g2,k*4+3,none⟩=some (.int .i64 q.up):=aJ hown _ _ (by rw[nds_get hg2 3 (by omega)];rfl);have f1:=cQ hown (k*4+3);have v1:IntKind.i64.wrap (q.up-(i:Int))=q.up-(i:Int):=IntWalk.i64_in _ (by omega);have hs1:=hown.stored (k*4+3) (.int .i64 (q.up-(i:Int)));rw[hput] at hs1;have HS:=Lib.hid (And.intro hs1 hbl);clear hs1 hput hg2 hown hbl hqk hq9;go_wp2_with fail;exact⟨⟨k+1,by omega,by go_num,HS.out.1.1,HS.out.2.grown HS.out.1.2 HS.out.2.size (fun k hk=>by injection hk with hk;have:=(H2.out.1.lt g2 rfl).1;omega)⟩,by simp[intOf];omega⟩
    ·obtain rfl:k=n2:=by omega
     have e1:M.take k=M:=List.take_of_length_le (by have:=HM.out;omega);have e2:M.drop k=[]:=List.drop_eq_nil_of_le (by have:=HM.out;omega);rw[e1,e2,List.append_nil] at hown;obtain⟨q0,hq0⟩:∃q,(M.map (shU i))[0]? = some q:=⟨_,List.getElem?_eq_getElem (by rw[List.length_map];have:=HM.out;omega)⟩;have y1:wr.cell? ⟨g2,3,none⟩=some (.int .i64 q0.up):=aJ hown _ _ (by have:=nds_get hq0 3 (by omega);rw[Nat.zero_mul,Nat.zero_add] at this;rw[this];rfl);have f1:=cQ hown 3;have hs1:=hown.stored 3 (.int .i64 (-1));rw[H.out.2.2.2.1] at hs1;have HS:=Lib.hid (And.intro hs1 hbl);have u1:¬(k:Int)<(k:Int):=by omega
     have u2:(0:Int)<(k:Int):=by omega
     clear hs1 hown hbl e1 e2 hq0;go_wp2_with fail;go_ret;exact⟨_,rfl,HS.out.1.1,HS.out.2.grown HS.out.1.2 HS.out.2.size (fun k hk=>by injection hk with hk;have:=(H2.out.1.lt g2 rfl).1;omega)⟩
end Go.Proofs.YtfagdpfgifgnoaaGreatDoor
namespace Go.Proofs.YtfagdpfgifgnoaaGreatDoor
open Go.RowKit
set_option linter.unusedVariables false
set_option linter.unusedSimpArgs false
set_option maxRecDepth 100000
def hdL:List Lf→List Lf→Nat
  | a::A,b::B=>if alT a b=true then hdL A B+1 else 0
  | _,_=>0
theorem hdL_step {A B:List Lf} {n:Nat} {x y:Lf} (hx:A[n]? = some x) (hy:B[n]? = some y):hdL (A.drop n) (B.drop n)=if alT x y=true then hdL (A.drop (n+1)) (B.drop (n+1))+1 else 0:=by
  obtain⟨a1,a2⟩:=List.getElem?_eq_some_iff.1 hx;obtain⟨b1,b2⟩:=List.getElem?_eq_some_iff.1 hy;rw[List.drop_eq_getElem_cons a1,List.drop_eq_getElem_cons b1,a2,b2];rfl
theorem hdL_end {A B:List Lf} {n:Nat} (h:A.length≤n∨B.length≤n):hdL (A.drop n) (B.drop n)=0:=by
  rcases h with h|h
  ·rw[List.drop_eq_nil_of_le h];unfold hdL;rfl
  ·rw[List.drop_eq_nil_of_le h];cases A.drop n<;>(unfold hdL;rfl)
set_option maxHeartbeats 4000000 in
theorem uhead_m (A B:List Lf) (P Q:Option Addr) (c d:Nat) (w:World) (hA:A.length≤900) (hB:B.length≤900) (hp:Rd w w.heap.size 4 (.slice P A.length c) A.length (fh A)) (hq:Rd w w.heap.size 4 (.slice Q B.length d) B.length (fh B)) :
    Calls Tryz.prog 25 #[.slice P A.length c,.slice Q B.length d] w fun e w'=>e=.returned (.int .i64 (hdL A B:Int))∧Below w.heap.size w w':=by
  have H:=Lib.hid (And.intro hp hq);clear hp hq;go_enter Tryz.func25,Tryz.ntmps25;go_wp2_with fail;go_loopw [5] (fun k wr=>∃n:Nat,n≤A.length∧k=.int .i64 (n:Int)∧hdL A B=n+hdL (A.drop n) (B.drop n)∧Below w.heap.size w wr) (fun k _=>A.length-(intOf k).toNat)
  case atStart=>exact⟨0,Nat.zero_le _,rfl,by simp,Below.refl _ _⟩
  case round=>
    obtain⟨n,hn,rfl,hh,hb⟩:=hrel;by_cases h1:n<A.length
    ·by_cases h2:n<B.length
     ·obtain⟨x,hx⟩:∃x,A[n]? = some x:=⟨_,List.getElem?_eq_getElem h1⟩;obtain⟨y,hy⟩:∃y,B[n]? = some y:=⟨_,List.getElem?_eq_getElem h2⟩;rw[hdL_step hx hy] at hh;obtain⟨g1,o1,rfl,x0,x1,x2,x3⟩:=fO (H.out.1.keep hb (Nat.le_refl _)) hx rfl;obtain⟨g2,o2,rfl,y0,y1,y2,y3⟩:=fO (H.out.2.keep hb (Nat.le_refl _)) hy rfl;have u1:(n:Int)<(A.length:Int):=by omega
      have u2:(n:Int)<(B.length:Int):=by omega
      have u3:(0:Int)≤(n:Int):=by omega
      have ca:=alike_m x y;obtain⟨b,hbb⟩:∃b,b=alT x y:=⟨_,rfl⟩;rw[←hbb] at ca hh;have HW:=Lib.hid (show Below w.heap.size w wr.drew from ae hb 1);have HC:=Lib.hid (And.intro ca hh);clear ca hh hb hx hy hbb;replace x0:wr.drew.cell? ⟨g1,o1+n*4,none⟩=some (.int .i64 x.kd):=x0;replace x1:wr.drew.cell? ⟨g1,o1+n*4+1,none⟩=some (.string ⟨x.tx.toArray⟩):=x1;replace x2:wr.drew.cell? ⟨g1,o1+n*4+2,none⟩=some (.int .i64 x.fr):=x2;replace x3:wr.drew.cell? ⟨g1,o1+n*4+3,none⟩=some (.int .i64 x.to):=x3;replace y0:wr.drew.cell? ⟨g2,o2+n*4,none⟩=some (.int .i64 y.kd):=y0;replace y1:wr.drew.cell? ⟨g2,o2+n*4+1,none⟩=some (.string ⟨y.tx.toArray⟩):=y1;replace y2:wr.drew.cell? ⟨g2,o2+n*4+2,none⟩=some (.int .i64 y.fr):=y2;replace y3:wr.drew.cell? ⟨g2,o2+n*4+3,none⟩=some (.int .i64 y.to):=y3
      cases b;all_goals (
        go_wp2_with fail
        go_region_held3 (fun w'=>w'.cell? ⟨g1,o1+n*4,none⟩=some (.int .i64 x.kd)∧w'.cell? ⟨g1,o1+n*4+1,none⟩=some (.string ⟨x.tx.toArray⟩)∧w'.cell? ⟨g1,o1+n*4+2,none⟩=some (.int .i64 x.fr)∧w'.cell? ⟨g1,o1+n*4+3,none⟩=some (.int .i64 x.to)∧w'.cell? ⟨g2,o2+n*4,none⟩=some (.int .i64 y.kd)∧w'.cell? ⟨g2,o2+n*4+1,none⟩=some (.string ⟨y.tx.toArray⟩)∧w'.cell? ⟨g2,o2+n*4+2,none⟩=some (.int .i64 y.fr)∧w'.cell? ⟨g2,o2+n*4+3,none⟩=some (.int .i64 y.to))
         (first|with_reducible exact⟨x0,x1,x2,x3,y0,y1,y2,y3⟩|exact⟨x0,x1,x2,x3,y0,y1,y2,y3⟩)
         (
          (go_at_call 49;refine(HC.out.1 _).mono ?_;rintro e w2 ⟨rfl,hb2⟩;have HW2:=Lib.hid (HW.out.trans (hb2.mono HW.out.size));have x0:=wj hb2 x0;have x1:=wj hb2 x1;have x2:=wj hb2 x2;have x3:=wj hb2 x3;have y0:=wj hb2 y0;have y1:=wj hb2 y1;have y2:=wj hb2 y2;have y3:=wj hb2 y3;clear hb2)))
      ·have e:=HC.out.2;rw[if_neg Bool.false_ne_true,Nat.add_zero] at e;have HE:=Lib.hid e;clear e x0 x1 x2 x3 y0 y1 y2 y3;go_wp2_with fail;go_ret;exact⟨by rw[HE.out];rfl,HW2.out⟩
      ·have e:=HC.out.2;rw[if_pos trivial] at e;have HE:=Lib.hid e;clear e x0 x1 x2 x3 y0 y1 y2 y3;go_wp2_with fail;exact⟨⟨n+1,by omega,by go_num,by rw[HE.out];omega,HW2.out⟩,by simp[intOf];omega⟩
     ·have e:=hdL_end (A:=A) (B:=B) (n:=n) (.inr (by omega));rw[e,Nat.add_zero] at hh;have HE:=Lib.hid (And.intro hh hb);have u1:(n:Int)<(A.length:Int):=by omega
      have u2:¬(n:Int)<(B.length:Int):=by omega
      clear hh hb e;go_wp2_with fail;go_quiet (fail);go_wp2_with fail;go_ret;exact⟨by rw[HE.out.1];rfl,ae HE.out.2 _⟩
    ·have e:=hdL_end (A:=A) (B:=B) (n:=n) (.inl (by omega));rw[e,Nat.add_zero] at hh;have HE:=Lib.hid (And.intro hh hb);have u1:¬(n:Int)<(A.length:Int):=by omega
     clear hh hb e;go_wp2_with fail;go_quiet (fail);go_wp2_with fail;go_ret;exact⟨by rw[HE.out.1];rfl,ae HE.out.2 _⟩
end Go.Proofs.YtfagdpfgifgnoaaGreatDoor
namespace Go.Proofs.YtfagdpfgifgnoaaGreatDoor
open Go.RowKit
set_option linter.unusedVariables false
set_option linter.unusedSimpArgs false
set_option maxRecDepth 100000
def tlL (A B:List Lf):Nat:=hdL A.reverse B.reverse
set_option maxHeartbeats 4000000 in
theorem tail_m (A B:List Lf) (P Q:Option Addr) (c d:Nat) (w:World) (hA:A.length≤900) (hB:B.length≤900) (hp:Rd w w.heap.size 4 (.slice P A.length c) A.length (fh A)) (hq:Rd w w.heap.size 4 (.slice Q B.length d) B.length (fh B)) :
    Calls Tryz.prog 26 #[.slice P A.length c,.slice Q B.length d] w fun e w'=>e=.returned (.int .i64 (tlL A B:Int))∧Below w.heap.size w w':=by
  have H:=Lib.hid (And.intro hp hq);clear hp hq;go_enter Tryz.func26,Tryz.ntmps26;go_wp2_with fail;go_loopw [5] (fun k wr=>∃n:Nat,n≤A.length∧k=.int .i64 (n:Int)∧tlL A B=n+hdL (A.reverse.drop n) (B.reverse.drop n)∧Below w.heap.size w wr) (fun k _=>A.length-(intOf k).toNat)
  case atStart=>exact⟨0,Nat.zero_le _,rfl,by unfold tlL;simp,Below.refl _ _⟩
  case round=>
    obtain⟨n,hn,rfl,hh,hb⟩:=hrel;by_cases h1:n<A.length
    ·by_cases h2:n<B.length
     ·obtain⟨ix1,hia⟩:∃i,i=A.length-1-n:=⟨_,rfl⟩;obtain⟨ix2,hib⟩:∃i,i=B.length-1-n:=⟨_,rfl⟩;obtain⟨x,hx⟩:∃x,A[ix1]? = some x:=⟨_,List.getElem?_eq_getElem (by omega)⟩;obtain⟨y,hy⟩:∃y,B[ix2]? = some y:=⟨_,List.getElem?_eq_getElem (by omega)⟩;rw[hdL_step (A:=A.reverse) (B:=B.reverse) (n:=n) (x:=x) (y:=y) (by rw[List.getElem?_reverse h1,←hia];exact hx) (by rw[List.getElem?_reverse h2,←hib];exact hy)] at hh;have v1:IntKind.i64.wrap ((A.length:Int)-1)=(A.length:Int)-1:=IntWalk.i64_in _ (by omega);have v2:IntKind.i64.wrap ((A.length:Int)-1-(n:Int))=(ix1:Int):=by rw[IntWalk.i64_in _ (by omega)];omega
      have v3:IntKind.i64.wrap ((B.length:Int)-1)=(B.length:Int)-1:=IntWalk.i64_in _ (by omega);have v4:IntKind.i64.wrap ((B.length:Int)-1-(n:Int))=(ix2:Int):=by rw[IntWalk.i64_in _ (by omega)];omega
      have w1:(ix1:Int)<(A.length:Int):=by omega
      have w2':(ix2:Int)<(B.length:Int):=by omega
      have w3:(0:Int)≤(ix1:Int):=by omega
      have w4:(0:Int)≤(ix2:Int):=by omega
      obtain⟨g1,o1,rfl,x0,x1,x2,x3⟩:=fO (H.out.1.keep hb (Nat.le_refl _)) hx rfl;obtain⟨g2,o2,rfl,y0,y1,y2,y3⟩:=fO (H.out.2.keep hb (Nat.le_refl _)) hy rfl;have u1:(n:Int)<(A.length:Int):=by omega
      have u2:(n:Int)<(B.length:Int):=by omega
      have u3:(0:Int)≤(n:Int):=by omega
      have ca:=alike_m x y;obtain⟨b,hbb⟩:∃b,b=alT x y:=⟨_,rfl⟩;rw[←hbb] at ca hh;have HW:=Lib.hid (show Below w.heap.size w wr.drew from ae hb 1);have HC:=Lib.hid (And.intro ca hh);clear ca hh hb hx hy hbb hia hib;replace x0:wr.drew.cell? ⟨g1,o1+ix1*4,none⟩=some (.int .i64 x.kd):=x0;replace x1:wr.drew.cell? ⟨g1,o1+ix1*4+1,none⟩=some (.string ⟨x.tx.toArray⟩):=x1;replace x2:wr.drew.cell? ⟨g1,o1+ix1*4+2,none⟩=some (.int .i64 x.fr):=x2;replace x3:wr.drew.cell? ⟨g1,o1+ix1*4+3,none⟩=some (.int .i64 x.to):=x3;replace y0:wr.drew.cell? ⟨g2,o2+ix2*4,none⟩=some (.int .i64 y.kd):=y0;replace y1:wr.drew.cell? ⟨g2,o2+ix2*4+1,none⟩=some (.string ⟨y.tx.toArray⟩):=y1;replace y2:wr.drew.cell? ⟨g2,o2+ix2*4+2,none⟩=some (.int .i64 y.fr):=y2;replace y3:wr.drew.cell? ⟨g2,o2+ix2*4+3,none⟩=some (.int .i64 y.to):=y3
      cases b;all_goals (
        go_wp2_with fail
        go_region_held3 (fun w'=>w'.cell? ⟨g1,o1+ix1*4,none⟩=some (.int .i64 x.kd)∧w'.cell? ⟨g1,o1+ix1*4+1,none⟩=some (.string ⟨x.tx.toArray⟩)∧w'.cell? ⟨g1,o1+ix1*4+2,none⟩=some (.int .i64 x.fr)∧w'.cell? ⟨g1,o1+ix1*4+3,none⟩=some (.int .i64 x.to)∧w'.cell? ⟨g2,o2+ix2*4,none⟩=some (.int .i64 y.kd)∧w'.cell? ⟨g2,o2+ix2*4+1,none⟩=some (.string ⟨y.tx.toArray⟩)∧w'.cell? ⟨g2,o2+ix2*4+2,none⟩=some (.int .i64 y.fr)∧w'.cell? ⟨g2,o2+ix2*4+3,none⟩=some (.int .i64 y.to))
         (first|with_reducible exact⟨x0,x1,x2,x3,y0,y1,y2,y3⟩|exact⟨x0,x1,x2,x3,y0,y1,y2,y3⟩)
         (
          (go_at_call 49;refine(HC.out.1 _).mono ?_;rintro e w2 ⟨rfl,hb2⟩;have HW2:=Lib.hid (HW.out.trans (hb2.mono HW.out.size));have x0:=wj hb2 x0;have x1:=wj hb2 x1;have x2:=wj hb2 x2;have x3:=wj hb2 x3;have y0:=wj hb2 y0;have y1:=wj hb2 y1;have y2:=wj hb2 y2;have y3:=wj hb2 y3;clear hb2)))
      ·have e:=HC.out.2;rw[if_neg Bool.false_ne_true,Nat.add_zero] at e;have HE:=Lib.hid e;clear e x0 x1 x2 x3 y0 y1 y2 y3;go_wp2_with fail;go_ret;exact⟨by rw[HE.out];rfl,HW2.out⟩
      ·have e:=HC.out.2;rw[if_pos trivial] at e;have HE:=Lib.hid e;clear e x0 x1 x2 x3 y0 y1 y2 y3;go_wp2_with fail;exact⟨⟨n+1,by omega,by go_num,by rw[HE.out];omega,HW2.out⟩,by simp[intOf];omega⟩
     ·have e:=hdL_end (A:=A.reverse) (B:=B.reverse) (n:=n) (.inr (by rw[List.length_reverse];omega));rw[e,Nat.add_zero] at hh;have HE:=Lib.hid (And.intro hh hb);have u1:(n:Int)<(A.length:Int):=by omega
      have u2:¬(n:Int)<(B.length:Int):=by omega
      clear hh hb e;go_wp2_with fail;go_quiet (fail);go_wp2_with fail;go_ret;exact⟨by rw[HE.out.1];rfl,ae HE.out.2 _⟩
    ·have e:=hdL_end (A:=A.reverse) (B:=B.reverse) (n:=n) (.inl (by rw[List.length_reverse];omega));rw[e,Nat.add_zero] at hh;have HE:=Lib.hid (And.intro hh hb);have u1:¬(n:Int)<(A.length:Int):=by omega
     clear hh hb e;go_wp2_with fail;go_quiet (fail);go_wp2_with fail;go_ret;exact⟨by rw[HE.out.1];rfl,ae HE.out.2 _⟩
end Go.Proofs.YtfagdpfgifgnoaaGreatDoor
namespace Go.Proofs.YtfagdpfgifgnoaaGreatDoor
open Go.RowKit
set_option linter.unusedVariables false
set_option linter.unusedSimpArgs false
set_option maxRecDepth 100000
structure HgR (S R:List Nd) (z:Int) (u b:Nat):Prop where
  len:R.length=S.length
  pos:0<S.length
  row:∀(j:Nat) (x y:Nd),S[j]? = some x→R[j]? = some y→y.kd=x.kd∧(y.fr:Int)=(x.fr:Int)+z∧(y.tt:Int)=(x.tt:Int)+z∧(j=0→y.up=(u:Int))∧(0<j→y.up=x.up+(b:Int))∧x.fr≤100000∧x.tt≤100000 ∧ -100000≤x.up∧x.up≤100000
set_option maxHeartbeats 4000000 in
theorem hang_m {g:Nat} {C:Uc} {r:List Nd} {p kp:Nat} {lv:Value} {W:World} (S R:List Nd) (z:Int) (u ks cs:Nat) (h:Ul g C r p kp lv W) (hR:HgR S R z u r.length) (hr:r.length+S.length≤90000) (hz : -100000≤z∧z≤100000)
    (hS:W.ownsRow ks 49 4 (.slice (some ⟨ks,0,none⟩) S.length cs) S.length (dt S)) (hgk:g<ks) (hne:lv.ownBlock≠some ks) :
    Calls Tryz.prog 78 #[.pointer (some ⟨g,0,none⟩),.int .i64 (u:Int),.slice (some ⟨ks,0,none⟩) S.length cs,.int .i64 z] W fun e w'=>e=.returned (.tuple #[])∧Um g C (r++R) ((R.head?.map Nd.tt).getD 0) kp w'∧FuM g W w':=by
  obtain⟨i0,hi0,hz0,hz1,hz2⟩:=info_parts Tryz.infoNode;obtain⟨A,n,c,rfl⟩:=az h.r;obtain rfl:=bN h.r;obtain⟨_,_,_,_,_,_,c6,_,_⟩:=h.cells;have H:=Lib.hid (And.intro h (And.intro hR (And.intro hS hne)));have hlen:=hR.len;have hpos:=hR.pos;clear h hR hS hne;go_enter Tryz.func78,Tryz.ntmps78;go_wp2_with fail;clear c6;go_loopw [18] (fun i wr=>∃(k:Nat) (l2:Value),k≤S.length∧i=.int .i64 (k:Int)∧Ul g C (r++R.take k) p kp l2 wr∧FuM g W wr∧wr.ownsRow ks 49 4 (.slice (some ⟨ks,0,none⟩) S.length cs) S.length (dt S)∧l2.ownBlock≠some ks) (fun i _=>S.length-(intOf i).toNat)
  case atStart=>exact⟨0,_,Nat.zero_le _,rfl,by simpa using H.out.1,FuM.refl _ _,H.out.2.2.1,H.out.2.2.2⟩
  case round=>
    obtain⟨k,l2,hk,rfl,hU,hF,hS,hne⟩:=hrel;by_cases hlt:k<S.length
    ·obtain⟨x,hx⟩:∃x,S[k]? = some x:=⟨_,List.getElem?_eq_getElem hlt⟩;obtain⟨y,hy⟩:∃y,R[k]? = some y:=⟨_,List.getElem?_eq_getElem (by omega)⟩;obtain⟨e1,e2,e3,e4,e5,e6,e7,e8,e9⟩:=H.out.2.1.row k x y hx hy;have x0:wr.cell? ⟨ks,k*4,none⟩=some (.int .i64 (x.kd:Int)):=aJ hS _ _ (by have:=nds_get hx 0 (by omega);rw[Nat.add_zero] at this;rw[this];rfl);have x1:wr.cell? ⟨ks,k*4+1,none⟩=some (.int .i64 (x.fr:Int)):=aJ hS _ _ (by rw[nds_get hx 1 (by omega)];rfl);have x2:wr.cell? ⟨ks,k*4+2,none⟩=some (.int .i64 (x.tt:Int)):=aJ hS _ _ (by rw[nds_get hx 2 (by omega)];rfl);have x3:wr.cell? ⟨ks,k*4+3,none⟩=some (.int .i64 x.up):=aJ hS _ _ (by rw[nds_get hx 3 (by omega)];rfl);have v1:IntKind.i64.wrap ((x.fr:Int)+z)=(x.fr:Int)+z:=IntWalk.i64_in _ (by omega);have v2:IntKind.i64.wrap ((x.tt:Int)+z)=(x.tt:Int)+z:=IntWalk.i64_in _ (by omega);have v3:IntKind.i64.wrap (x.up+(r.length:Int))=x.up+(r.length:Int):=IntWalk.i64_in _ (by omega);have u1:(k:Int)<(S.length:Int):=by omega
     have u2:(0:Int)≤(k:Int):=by omega
     have HY:=Lib.hid (And.intro e1 (And.intro e2 (And.intro e3 (And.intro e4 (And.intro e5 hy)))));have HU:=Lib.hid (And.intro hU (And.intro hF (And.intro hS hne)));clear e1 e2 e3 e4 e5 hy hx hU hF hS hne;have hks:=(HU.out.2.2.1.lt ks rfl).2;obtain⟨A2,n2,c2,rfl⟩:=az HU.out.1.r;have hn2:=bN HU.out.1.r;have hgl:=HU.out.1.w.lt;have hlk:(r++R.take k).length=r.length+k:=by simp;omega
     have htk:r++R.take (k+1)=(r++R.take k)++[y]:=by rw[List.take_add_one,HY.out.2.2.2.2.2,List.append_assoc];rfl
     obtain⟨r2,hr2⟩:∃r2,r2=r++R.take k:=⟨_,rfl⟩;rw[←hr2] at hn2 hlk htk;have HR2:=Lib.hid (And.intro hr2 (And.intro htk (And.intro hn2 hlk)));by_cases hk0:k=0
     case' pos=>
       have ek:(k:Int)=0:=by omega
       have t1:((k:Int)==0)=true:=by rw[ek];rfl
       have HK:=Lib.hid hk0;clear hk0 ek htk hr2 hn2 hlk;go_upto_region 7 with fail
       obtain⟨W1,hW1⟩:∃W1,W1=wr.alloc (.cells #[.int .i64 (x.kd:Int),.int .i64 ((x.fr:Int)+z),.int .i64 ((x.tt:Int)+z),.int .i64 (u:Int)] 49):=⟨_,rfl⟩;rw[←hW1];rw[←HY.out.2.2.2.1 HK.out] at hW1
     case' neg=>
       have t1:((k:Int)==0)=false:=beq_false_of_ne (by omega);have HK:=Lib.hid hk0;clear hk0 htk hr2 hn2 hlk;go_upto_region 7 with fail
       obtain⟨W1,hW1⟩:∃W1,W1=wr.alloc (.cells #[.int .i64 (x.kd:Int),.int .i64 ((x.fr:Int)+z),.int .i64 ((x.tt:Int)+z),.int .i64 (x.up+(r.length:Int))] 49):=⟨_,rfl⟩;rw[←hW1];rw[←HY.out.2.2.2.2.1 (Nat.pos_of_ne_zero HK.out)] at hW1
     all_goals (
       rw[←HY.out.2.1,←HY.out.2.2.1,←HY.out.1] at hW1;clear x0 x1 x2 x3 v1 v2 v3;have hb1:Below wr.heap.size wr W1:=by rw[hW1];exact(Below.refl _ _).alloc (Nat.le_refl _) _
       have kb:Bk W1 wr.heap.size 49 #[.int .i64 (y.kd:Int),.int .i64 (y.fr:Int),.int .i64 (y.tt:Int),.int .i64 y.up]:=by rw[hW1];exact Bk.new _ _ _
       have b0:W1.cell? ⟨wr.heap.size,0,none⟩=some (.int .i64 (y.kd:Int)):=by rw[kb.cell];rfl
       have b1:W1.cell? ⟨wr.heap.size,1,none⟩=some (.int .i64 (y.fr:Int)):=by rw[kb.cell];rfl
       have b2:W1.cell? ⟨wr.heap.size,2,none⟩=some (.int .i64 (y.tt:Int)):=by rw[kb.cell];rfl
       have b3:W1.cell? ⟨wr.heap.size,3,none⟩=some (.int .i64 y.up):=by rw[kb.cell];rfl
       have hs1:W1.heap.size=wr.heap.size+1:=by rw[hW1];simp
       have hU1:=HU.out.1.next hb1;rw[←HR2.out.1] at hU1;obtain⟨_,_,_,_,_,_,c6,_,_⟩:=hU1.cells;have f6:=hU1.w.frozen 6;have H1:=Lib.hid (And.intro hU1 (And.intro (HU.out.2.1.trans (FuM.of hb1 (Nat.le_of_lt hgl))) (And.intro (aN HU.out.2.2.1 hb1) hb1)));clear hW1 hb1 kb hU1;have g1:g<W1.heap.size:=by omega
       have hn2:=HR2.out.2.2.1;subst hn2
       go_region_law (first
         | (refine cS rfl (.tmp 46) (.tmp 48) 25 rfl g 49 i0 _ 4 32 Tryz.underlying25 hi0 hz0 hz1 hz2 rfl (by decide) (.slice A2 r2.length c2) r2.length (dt r2) (by simp[Act.eval]) (H1.out.1.r.alloc _) (.slice (some ⟨W1.heap.size,0,none⟩) 1 1) 1 (W1.heap.size+1) (dt [y]) (by simp[Act.eval]) (Rd.drew (eM W1 (dt [y]) 49 4 1 rfl (by omega))) (DO _) (by have:=HR2.out.2.2.2;unfold maxLen;omega) (by have:=HR2.out.2.2.2;omega) (by simp;omega) ?_;intro v1 w1 hown1 hg1 hv1;obtain⟨gn,cn,rfl⟩:=fK hown1;have kk:=(H1.out.1.w.alloc (.cells #[.int .i64 (y.kd:Int),.int .i64 (y.fr:Int),.int .i64 (y.tt:Int),.int .i64 y.up] 49)).drew.grown hg1 (fun e=>aL H1.out.1.r H1.out.1.w (by decide) e.symm);have y6:=kk.cell 6;have z6:=kk.frozen 6;have H3:=Lib.hid (And.intro hown1 (And.intro hg1 hv1));clear hown1 hg1 hv1 kk))
       all_goals (
         have hbA:Below W1.heap.size W1 (W1.alloc (.cells #[.int .i64 (y.kd:Int),.int .i64 (y.fr:Int),.int .i64 (y.tt:Int),.int .i64 y.up] 49)).drew:=((Below.refl _ W1).alloc (Nat.le_refl _) _).drew;have hp:=Ul.push (x:=y) (H1.out.1.next hbA) H3.out.1 H3.out.2.1;have hk2:=World.ownsRow.kept (aN H1.out.2.2.1 hbA) H3.out.2.1 (Or.inr (fun e=>HU.out.2.2.2 e.symm));have hk3:=aT (p:=⟨g,6,none⟩) hk2 (fun e=>by have e2:ks=g:=(Option.some.injEq _ _).mp e;omega) (.slice (some ⟨gn,0,none⟩) (r2.length+1) cn);have hk4:(Value.slice (some ⟨gn,0,none⟩) (r2.length+1) cn).ownBlock≠some ks:=by
           rcases H3.out.2.2 with e|e
           ·rw[e];exact HU.out.2.2.2
           ·rw[e];intro e2;have e3:=(Option.some.injEq _ _).mp e2;simp at e3;omega
         have H4:=Lib.hid (And.intro hp.1 (And.intro (H1.out.2.1.trans ((FuM.of hbA (Nat.le_of_lt g1)).trans hp.2)) (And.intro hk3 hk4)));clear y6 z6 hp hbA hk2 hk3 hk4 H3 b0 b1 b2 b3 c6 f6;generalize w1.setCell {block:=g,off:=6} (Value.slice (some {block:=gn,off:=0}) (r2.length+1) cn)=W3 at *;go_wp2_with fail;refine⟨⟨k+1,_,by omega,by go_num,by rw[HR2.out.2.1];exact H4.out.1,H4.out.2.1,H4.out.2.2.1,H4.out.2.2.2⟩,by simp[intOf];omega⟩))
    ·obtain rfl:k=S.length:=by omega
     rw[←hlen,List.take_length] at hU;obtain⟨y,hy⟩:∃y,R[0]? = some y:=⟨_,List.getElem?_eq_getElem (by omega)⟩;have hl1:(r++R).length=r.length+S.length:=by simp;omega
     obtain⟨m,hm⟩:∃m,(r++R).length=m+1:=⟨(r++R).length-1,by omega⟩;obtain⟨a2,c2,rfl⟩:∃a2 c2,l2=.slice (some ⟨a2,0,none⟩) (r++R).length c2:=by
       have hr2:=hU.r;rw[hm] at hr2 ⊢;exact fK hr2
     have x6:wr.cell? ⟨g,6,none⟩=some (.slice (some ⟨a2,0,none⟩) (r++R).length c2):=hU.cells.2.2.2.2.2.2.1;have f7:=hU.w.frozen 7;have x7:wr.cell? ⟨g,7,none⟩=some (.int .i64 (p:Int)):=hU.cells.2.2.2.2.2.2.2.1;have hx:(r++R)[r.length]? = some y:=by rw[List.getElem?_append_right (Nat.le_refl _),Nat.sub_self];exact hy
     have x2:wr.cell? ⟨a2,r.length*4+2,none⟩=some (.int .i64 (y.tt:Int)):=aJ hU.r _ _ (by rw[nds_get hx 2 (by omega)];rfl);rw[hl1] at x6;have hd:(R.head?.map Nd.tt).getD 0=y.tt:=by rw[List.head?_eq_getElem?,hy];rfl
     have HU:=Lib.hid (And.intro hU (And.intro hF hd));have u3:(r.length:Int)<((r.length+S.length:Nat):Int):=by omega
     have u4:(0:Int)≤(r.length:Int):=by omega
     clear hU hF hy hx hd hm;go_wp2_with fail;all_goals go_end0
     all_goals (
       have hp:=HU.out.1.setP y.tt;rw[HU.out.2.2];exact⟨rfl,⟨_,hp.1⟩,HU.out.2.1.trans hp.2⟩)
end Go.Proofs.YtfagdpfgifgnoaaGreatDoor
namespace Go.Proofs.YtfagdpfgifgnoaaGreatDoor
set_option linter.unusedVariables false
set_option linter.unusedSimpArgs false
set_option maxRecDepth 100000
theorem hdL_le:∀A B:List Lf,hdL A B≤A.length∧hdL A B≤B.length
  | [],B=>by unfold hdL;simp
  | a::A,[]=>by unfold hdL;simp
  | a::A,b::B=>by
    have:=hdL_le A B
    unfold hdL;split
    ·simp;omega
    ·simp
theorem alT_kx {A B:List Lf} {i j:Nat} {x y:Lf} (hx:A[i]? = some x) (hy:B[j]? = some y) (h:alT x y=true):kx A i=kx B j:=by
  unfold alT at h;simp only[Bool.and_eq_true,beq_iff_eq] at h;unfold kx;rw[hx,hy];simp[h.1,h.2]
theorem hdL_kx:∀(A B:List Lf) (i:Nat),i<hdL A B→kx A i=kx B i
  | [],B,i,h=>by unfold hdL at h;omega
  | a::A,[],i,h=>by unfold hdL at h;omega
  | a::A,b::B,i,h=>by
    unfold hdL at h;by_cases hc:alT a b=true
    ·rw[if_pos hc] at h
     cases i with
     | zero=>exact alT_kx (x:=a) (y:=b) rfl rfl hc
     | succ i=>
       have:=hdL_kx A B i (by omega)
       unfold kx at this ⊢;simpa using this
    ·rw[if_neg hc] at h;omega
theorem tlL_le (A B:List Lf):tlL A B≤A.length∧tlL A B≤B.length:=by
  have:=hdL_le A.reverse B.reverse
  simpa [tlL] using this
theorem kx_rev {A:List Lf} {i:Nat} (h:i<A.length):kx A.reverse i=kx A (A.length-1-i):=by
  unfold kx;rw[List.getElem?_reverse h]
theorem tlL_kx (A B:List Lf) (j:Nat) (h:j<tlL A B):kx A (A.length-1-j)=kx B (B.length-1-j):=by
  have h1:=tlL_le A B;rw[←kx_rev (by omega),←kx_rev (by omega)];exact hdL_kx _ _ _ h
theorem tl_drop (A B:List Lf) (n:Nat) (hA:n≤A.length) (hB:n≤B.length):∀j,j<tlL (A.drop n) (B.drop n)→kx A (A.length-1-j)=kx B (B.length-1-j):=by
  intro j hj;have h1:=tlL_le (A.drop n) (B.drop n);rw[List.length_drop,List.length_drop] at h1;have h2:=tlL_kx _ _ j hj;rw[List.length_drop,List.length_drop] at h2;unfold kx at h2 ⊢;rw[List.getElem?_drop,List.getElem?_drop] at h2
  rwa [show n+(A.length-n-1-j)=A.length-1-j by omega,show n+(B.length-n-1-j)=B.length-1-j by omega] at h2
end Go.Proofs.YtfagdpfgifgnoaaGreatDoor
