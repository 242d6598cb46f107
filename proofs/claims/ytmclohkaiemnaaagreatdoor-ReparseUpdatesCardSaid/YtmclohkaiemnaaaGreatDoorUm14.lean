/- Reparse: the maker's memory: its box, the leaves and the older nodes that it reads, the map, the nodes that it has made. -/
import Derived.Test.YtmclohkaiemnaaaGreatDoorMb13
import Derived.Test.YtmclohkaiemnaaaGreatDoorIm24
import Derived.Test.YtmclohkaiemnaaaGreatDoorPm13
import Derived.Test.YtmclohkaiemnaaaGreatDoorLf9
import Derived.Test.YtmclohkaiemnaaaGreatDoorOd14
set_option linter.unusedVariables false
set_option linter.unusedSimpArgs false
set_option maxRecDepth 100000
set_option maxHeartbeats 8000000
namespace Go.Proofs.YtmclohkaiemnaaaGreatDoor
open Go.RowKit
structure jQ (g:Nat) (W W':World):Prop where
  hb:Below g W W'
  kt:KT [46,52] W W'
theorem jQ.refl (g:Nat) (W:World):jQ g W W:=⟨ay _ _,KT.refl _ _⟩
theorem jQ.trans {g:Nat} {a b c:World} (h:jQ g a b) (k:jQ g b c):jQ g a c:=⟨h.hb.trans k.hb,h.kt.trans k.kt⟩
theorem jQ.of {g:Nat} {W W':World} (hb:Below W.heap.size W W') (hg:g≤W.heap.size):jQ g W W':=⟨hb.mono hg,KT.of_below hb⟩
structure Uc where
  nv:Value
  ov:Value
  F:List Lf
  L:List Nd
  b:Nat
  mn:Nat
  f:Int→Int
  mo:Int
  hd:Nat
  tl:Nat
variable {cs:Array Value} {f:Int→Int} {x y:Lf} {r ys S:List Nd} {g p kp i b ga k:Nat} {C:Uc} {lv v':Value} {W W':World} (L:List Nd) (A:Option Addr) (n c:Nat) (w:World)
abbrev OH (C:Uc) (lv:Value) (p kp:Nat):Array Value:=#[C.nv,C.ov,.int .i64 C.mo,.int .i64 (C.hd:Int),.int .i64 (C.tl:Int),.map (some C.b),lv,.int .i64 (p:Int),.int .i64 (kp:Int)]
structure Ul (g:Nat) (C:Uc) (r:List Nd) (p kp:Nat) (lv:Value) (W:World):Prop where
  w:Bk W g 46 (OH C lv p kp)
  r:W.ownsRow g 52 4 lv r.length (fm r)
  f:Rd W g 4 C.nv C.F.length (gv C.F)
  o:Rd W g 4 C.ov C.L.length (fm C.L)
  m:IM W C.b C.mn C.f
  b:C.b<g
def Um (g:Nat) (C:Uc) (r:List Nd) (p kp:Nat) (W:World):Prop:=∃lv,Ul g C r p kp lv W
theorem Ul.next (h:Ul g C r p kp lv W) (hb:Below W.heap.size W W'):Ul g C r p kp lv W':=
  ⟨h.w.below hb h.w.lt,eC h.r hb,h.f.keep (hb.mono (aM h.w.lt)) (au _),h.o.keep (hb.mono (aM h.w.lt)) (au _),h.m.below hb,h.b⟩
theorem Um.next (h:Um g C r p kp W) (hb:Below W.heap.size W W'):Um g C r p kp W':=by
  obtain⟨lv,h⟩:=h;exact⟨lv,h.next hb⟩
theorem AH (h:Bk W g 46 cs) (i:Nat) (v:Value):jQ g W (W.setCell ⟨g,i,none⟩ v):=
  ⟨K7 (ay _ _) (eJ (fA W (some g)) i v) (aM h.lt) (au _),(KT.refl _ W).setCell h (by decide) i v⟩
theorem wH {n:Nat} (h:IM W b n f) (hb:b<g) (hW:Below g W W'):IM W' b n f:=h.kept (hW.block b hb)
theorem Ul.setP (h:Ul g C r p kp lv W) (q:Nat):Ul g C r q kp lv (W.setCell ⟨g,7,none⟩ (.int .i64 (q:Int)))∧jQ g W (W.setCell ⟨g,7,none⟩ (.int .i64 (q:Int))):=
  have hb:=AH h.w 7 (.int .i64 (q:Int))
  ⟨⟨h.w.set 7 _,fh h.r (eP h.r h.w (by decide)) _,h.f.keep hb.hb (au _),h.o.keep hb.hb (au _),wH h.m h.b hb.hb,h.b⟩,hb⟩
theorem Ul.setK (h:Ul g C r p kp lv W) (q:Nat):Ul g C r p q lv (W.setCell ⟨g,8,none⟩ (.int .i64 (q:Int)))∧jQ g W (W.setCell ⟨g,8,none⟩ (.int .i64 (q:Int))):=
  have hb:=AH h.w 8 (.int .i64 (q:Int))
  ⟨⟨h.w.set 8 _,fh h.r (eP h.r h.w (by decide)) _,h.f.keep hb.hb (au _),h.o.keep hb.hb (au _),wH h.m h.b hb.hb,h.b⟩,hb⟩
theorem Ul.setTo {c n:Nat} (h:Ul g C r p kp (.slice (some ⟨ga,0,none⟩) n c) W) (i t:Nat) (hi:i<r.length) :
    Ul g C (ik r i t) p kp (.slice (some ⟨ga,0,none⟩) n c) (W.setCell ⟨ga,i*4+2,none⟩ (.int .i64 (t:Int)))∧jQ g W (W.setCell ⟨ga,i*4+2,none⟩ (.int .i64 (t:Int))):=by
  have hne:ga≠g:=fun e=>eP h.r h.w (by decide) (by rw[e];rfl)
  obtain⟨e1,_,_,e4,e5⟩:=iu h.r;subst e1;have hh:=kY h.r;have hs:=ox h.r (i*4+2) (.int .i64 (t:Int));rw[sO _ _ _ hi] at hs;have hg:=eJ (fA W (some ga)) (i*4+2) (.int .i64 (t:Int));have hb:=K7 (ay _ _) hg (aM h.w.lt) e4;exact⟨⟨h.w.grown hg (fun e=>hne (by injection e with e;exact e.symm)),by show World.ownsRow _ _ _ _ _ (ik _ _ _).length _;rw[ij];exact hs,h.f.keep hb (au _),h.o.keep hb (au _),wH h.m h.b hb,h.b⟩,hb,(KT.refl _ W).setCell hh (by decide) _ _⟩
theorem Ul.push {x:Nd} (h:Ul g C r p kp lv W) (ho:W'.ownsRow g 52 4 v' (r.length+1) (fm r++fm [x])) (hg:W.grownBy W' lv.ownBlock) :
    Ul g C (r++[x]) p kp v' (W'.setCell ⟨g,6,none⟩ v')∧jQ g W (W'.setCell ⟨g,6,none⟩ v'):=by
  have k1:Bk W' g 46 _:=h.w.grown hg (fun e=>eP h.r h.w (by decide) e.symm);have hb1:jQ g W W':=⟨dV (ay _ _) hg (aM h.w.lt) (fun k hk=>(h.r.lt k hk).1),(KT.refl _ W).grown hg (fun k hk=>by obtain⟨cs,t,fr,e1,e2⟩:=jR h.r k hk;exact⟨cs,t,fr,e1,by rw[e2];decide⟩)⟩;have hb2:=AH k1 6 v';have hb:=hb1.trans hb2;rw[←mj] at ho;refine⟨⟨k1.set 6 v',?_,h.f.keep hb.hb (au _),h.o.keep hb.hb (au _),wH h.m h.b hb.hb,h.b⟩,hb⟩;show World.ownsRow _ _ _ _ _ (r++[x]).length _;rw[aD];exact fh ho (eP ho k1 (by decide)) _
theorem Ul.cells (h:Ul g C r p kp lv W) :
    W.cell? ⟨g,0,none⟩=some C.nv∧W.cell? ⟨g,1,none⟩=some C.ov∧W.cell? ⟨g,2,none⟩=some (.int .i64 C.mo)∧W.cell? ⟨g,3,none⟩=some (.int .i64 (C.hd:Int))∧W.cell? ⟨g,4,none⟩=some (.int .i64 (C.tl:Int))∧W.cell? ⟨g,5,none⟩=some (.map (some C.b))∧W.cell? ⟨g,6,none⟩=some lv∧W.cell? ⟨g,7,none⟩=some (.int .i64 (p:Int))∧W.cell? ⟨g,8,none⟩=some (.int .i64 (kp:Int)):=
  ⟨h.w.cell 0,h.w.cell 1,h.w.cell 2,h.w.cell 3,h.w.cell 4,h.w.cell 5,h.w.cell 6,h.w.cell 7,h.w.cell 8⟩
def Cn (x y:Lf):Bool:=x.kd==y.kd&&x.tx==y.tx
theorem Cl (x y:Lf) (w:World):jJ 35 #[Hz x,Hz y] w (.bool (Cn x y)):=by
  obtain⟨xk,xt,xf,xo⟩:=x;obtain⟨yk,yt,yf,yo⟩:=y;unfold Hz Cn;simp only;have key:∀b:Bool,((xk==yk&&xt==yt)=b)→jJ 35 #[.agg #[.int .i64 xk,.string ⟨xt.toArray⟩,.int .i64 xf,.int .i64 xo],.agg #[.int .i64 yk,.string ⟨yt.toArray⟩,.int .i64 yf,.int .i64 yo]] w (.bool b):=fun b hb=>by
    by_cases h1:xk=yk
    ·subst h1;by_cases h2:xt=yt
     ·subst h2;obtain rfl:b=true:=by rw[←hb];simp
      clear hb;go_enter Tryz.func35,Tryz.ntmps35;go_wp2;go_ret;exact⟨rfl,((ay _ w).alloc (au _) _).alloc (by simp) _⟩
     ·obtain rfl:b=false:=by rw[←hb];simp[h2]
      have t1:(xt==yt)=false:=aN h2;clear hb;go_enter Tryz.func35,Tryz.ntmps35;go_wp2;go_ret;exact⟨rfl,((ay _ w).alloc (au _) _).alloc (by simp) _⟩
    ·obtain rfl:b=false:=by rw[←hb];simp[h1]
     have t1:(xk==yk)=false:=aN h1;clear hb;go_enter Tryz.func35,Tryz.ntmps35;go_wp2;go_ret;exact⟨rfl,((ay _ w).alloc (au _) _).alloc (by simp) _⟩
  exact key _ rfl
theorem Be (hF:FB C.F) (h:Ul g C r p kp lv W) (hp:p≤C.F.length) :
    jJ 38 #[.pointer (some ⟨g,0,none⟩)] W (.int .u8 ((sg C.F p).toNat:Int)):=by
  obtain⟨c0,_,_,_,_,_,_,c7,_⟩:=h.cells;have hfr:=h.f;obtain⟨nv,ov,F,L,b,mn,f,mo,hd,tl⟩:=C;simp only at c0 c7 hfr hF hp ⊢;obtain⟨A,c,rfl⟩:=hfr.formm;have hn:=hF.n;by_cases hlt:p<F.length
  ·obtain⟨x,hx⟩:∃x,F[p]? = some x:=⟨_,ax hlt⟩;have hsg:sg F p=sA x:=by unfold sg;rw[hx]
   obtain⟨g1,o1,rfl,y0,y1,y2,y3⟩:=gZ hfr hx rfl;have u1:(p:Int)<(F.length:Int):=by omega
   have u2:(0:Int)≤(p:Int):=by omega
   have d1:decide ((F.length:Int)≤(p:Int))=false:=aE (by omega);have HX:=ac (ae hsg (hF.t x (aI hx)));clear hsg hx hfr hn hp h hF;rw[HX.out.1];go_enter Tryz.func38,Tryz.ntmps38;go_wp2;go_quiet (fail);go_wp2;have c0':(W.drewN nq).cell? ⟨g,0,none⟩=some (.slice (some ⟨g1,o1,none⟩) F.length c):=c0;have c7':(W.drewN nq).cell? ⟨g,7,none⟩=some (.int .i64 (p:Int)):=c7;have y0':(W.drewN nq).cell? ⟨g1,o1+p*4,none⟩=some (.int .i64 x.kd):=y0;have y1':(W.drewN nq).cell? ⟨g1,o1+p*4+1,none⟩=some (.string ⟨x.tx.toArray⟩):=y1;have y2':(W.drewN nq).cell? ⟨g1,o1+p*4+2,none⟩=some (.int .i64 x.fr):=y2;have y3':(W.drewN nq).cell? ⟨g1,o1+p*4+3,none⟩=some (.int .i64 x.to):=y3;have hb0:Below W.heap.size W (W.drewN nq):=dX (ay _ W) nq;clear c0 c7 y0 y1 y2 y3;generalize W.drewN nq=W1 at *
   go_region_held3 (fun w'=>w'.cell? ⟨g,0,none⟩=some (.slice (some ⟨g1,o1,none⟩) F.length c)∧w'.cell? ⟨g,7,none⟩=some (.int .i64 (p:Int))∧w'.cell? ⟨g1,o1+p*4,none⟩=some (.int .i64 x.kd)∧w'.cell? ⟨g1,o1+p*4+1,none⟩=some (.string ⟨x.tx.toArray⟩)∧w'.cell? ⟨g1,o1+p*4+2,none⟩=some (.int .i64 x.fr)∧w'.cell? ⟨g1,o1+p*4+3,none⟩=some (.int .i64 x.to))
    (first|with_reducible exact⟨c0',c7',y0',y1',y2',y3'⟩|exact⟨c0',c7',y0',y1',y2',y3'⟩)
    (
     (go_at_call 60;refine(Eh x _ (by have:=HX.out.2;omega)).mono ?_;rintro e w2 ⟨rfl,hb2⟩;have H2:=ac (hb0.trans (((ay _ W1).drew.trans hb2).mono hb0.size));have c0':=jc hb2 c0';have c7':=jc hb2 c7';have y0':=jc hb2 y0';have y1':=jc hb2 y1';have y2':=jc hb2 y2';have y3':=jc hb2 y3';clear hb2))
   go_wp2;go_ret;exact⟨rfl,H2.out⟩
  ·have hsg:sg F p=0:=by unfold sg;rw[bI (by omega)]
   have d1:(F.length:Int)≤(p:Int):=by omega
   rw[hsg];clear hfr hn hp h hsg hF;go_enter Tryz.func38,Tryz.ntmps38;go_wp2;go_quiet (fail);go_wp2;go_ret;exact⟨rfl,dX (ay _ W) nq⟩
theorem td (hF:FB C.F) (h:Um g C r p kp W) (hp:p≤C.F.length) :
    Calls Tryz.prog 17 #[.pointer (some ⟨g,0,none⟩)] W fun e w'=>∃q:Nat,p≤q∧q≤C.F.length∧(∀i,p≤i→i<q→sg C.F i=110)∧sg C.F q≠110∧e=.returned (.bool (decide (p<q)))∧Um g C r q kp w'∧jQ g W w':=by
  obtain⟨lv,h⟩:=h;obtain⟨_,_,_,_,_,_,_,c7,_⟩:=h.cells;have hn:=hF.n;have gl:=h.w.lt;have H:=ac (ae hF h);clear hF h;go_enter Tryz.func17,Tryz.ntmps17;go_wp2_with fail;clear c7;go_loopw [] (fun wr=>∃q:Nat,p≤q∧q≤C.F.length∧(∀i,p≤i→i<q→sg C.F i=110)∧Ul g C r q kp lv wr∧jQ g W wr) (fun wr=>C.F.length-(match wr.cell? ⟨g,7,none⟩ with|some (.int _ z)=>z.toNat|_=>0))
  case atStart=>exact⟨p,au _,hp,fun i h1 h2=>by omega,H.out.2,jQ.refl _ _⟩
  case round=>
    obtain⟨q,hq1,hq2,hnl,hU,hb⟩:=hrel;obtain⟨_,_,_,_,_,_,_,c7,_⟩:=hU.cells;have cs:=Be H.out.1 hU hq2;obtain⟨z,hz⟩:∃z,z=sg C.F q:=⟨_,rfl⟩;rw[←hz] at cs;have k0:((z.toNat:Int)==110)=(z==110):=iT z 110;by_cases h1:z=110
    ·have t1:((z.toNat:Int)==110)=true:=by rw[h1];rfl
     have hlt:q<C.F.length:=oV (by rw[←hz,h1];decide);have HS:=ac (ae cs (ae hU (ae hb (ae hnl (hz.symm.trans h1)))));clear cs hU hb hnl hz k0 h1;go_wp2_with (
       (go_at_call 38;with_reducible refine HS.out.1.mono ?_
        rintro e w2 ⟨rfl,hb2⟩;have hU2:=HS.out.2.1.next hb2;have hb2':=HS.out.2.2.1.trans (jQ.of hb2 (aM HS.out.2.1.w.lt));have hs2:=hU2.setP (q+1);rw[show ((q+1:Nat):Int)=(q:Int)+1 by omega] at hs2;obtain⟨_,_,_,_,_,_,_,c7,_⟩:=hU2.cells;have fz7:=hU2.w.frozen 7;have H2:=ac (ae hs2 hb2');clear hb2 hU2 hb2' hs2))
     have c7':=H2.out.1.1.cells.2.2.2.2.2.2.2.1;refine⟨⟨q+1,by omega,by omega,fun i h1 h2=>?_,H2.out.1.1,H2.out.2.trans H2.out.1.2⟩,?_⟩
     ·rcases bC i q with h3|h3
      ·exact HS.out.2.2.2.1 i h1 h3
      ·obtain rfl:i=q:=by omega
       exact HS.out.2.2.2.2
     ·rw[HS.out.2.1.cells.2.2.2.2.2.2.2.1,show (w2.setCell ⟨g,7,none⟩ (.int .i64 ((q:Int)+1))).cell? ⟨g,7,none⟩=some (.int .i64 ((q+1:Nat):Int)) from c7'];show C.F.length-((q+1:Nat):Int).toNat<C.F.length-((q:Nat):Int).toNat;rw[bJ,bJ];omega
    ·have t1:((z.toNat:Int)==110)=false:=by rw[k0];exact aN h1
     have HS:=ac (ae cs (ae hU (ae hb (ae hnl (fun e:sg C.F q=110=>h1 (hz.trans e))))));clear cs hU hb hnl hz k0 h1;go_wp2_with (
       (go_at_call 38;with_reducible refine HS.out.1.mono ?_
        rintro e w2 ⟨rfl,hb2⟩;have hU2:=HS.out.2.1.next hb2;have hb2':=HS.out.2.2.1.trans (jQ.of hb2 (aM HS.out.2.1.w.lt));obtain⟨_,_,_,_,_,_,_,c7,_⟩:=hU2.cells;have H2:=ac (ae hU2 hb2');clear hb2 hU2 hb2'))
     go_ret;exact⟨q,hq1,hq2,HS.out.2.2.2.1,HS.out.2.2.2.2,by first|rfl|simp,⟨lv,H2.out.1⟩,H2.out.2⟩
theorem Jo:∀u∈fm L,u.oneCell'=true:=by
  intro u hu;obtain⟨x,_,h⟩:=dL.1 hu;simp only[Dv,bj,dq,or_false] at h;rcases h with rfl|rfl|rfl|rfl<;>rfl
theorem Jp (L:List Lf):∀u∈gv L,u.oneCell'=true:=by
  intro u hu;obtain⟨x,_,h⟩:=dL.1 hu;simp only[KZ,bj,dq,or_false] at h;rcases h with rfl|rfl|rfl|rfl<;>rfl
theorem GX (hn:n=L.length) (h:Rd w w.heap.size 4 (.slice A n c) n (fm L)) (hl:n≤100000) :
    Calls Tryz.prog 98 #[.slice A n c] w fun e w'=>∃v,e=.returned v∧w'.ownsRow w.heap.size 52 4 v n (fm L)∧Below w.heap.size w w':=by
  have hnil:=fun (W:World)=>Lib.run_eql_slice_nil (P:=Tryz.prog) W
  cases A with
  | none=>
    obtain⟨h1,A',c',h2,h3,h4,h5,h6⟩:=h
    cases h2;have hc:=h5 rfl;subst hc;obtain rfl:n=0:=by omega
    obtain rfl:L=[]:=bN hn.symm;clear h1 h4 h5 h6 h3 hn hl;go_enter Tryz.func98,Tryz.ntmps98;go_wp2;go_ret;exact⟨_,rfl,⟨rfl,.inl ⟨rfl,rfl⟩⟩,ay _ _⟩
  | some A=>
    obtain⟨i0,hi,hz0,hz1,hz2⟩:=cL Tryz.infoNode;have H:=ac h;clear h;go_enter Tryz.func98,Tryz.ntmps98
    go_wp2_with (first
      | (at_builtin
         refine gE rfl (.tmp 5) (.tmp 6) 25 rfl w.heap.size 52 i0 _ 4 32 Tryz.underlying25 hi hz0 hz1 hz2 rfl (by decide) (.slice (some ⟨w.heap.size,0,none⟩) 0 0) 0 [] rfl (World.ownsRow_made _ _ _ (au _) (by unfold maxLen;omega) (by simp)) (.slice (some A) n c) n w.heap.size (fm L) rfl (H.out.keep (by go_grown) (au _)) (Jo L) (by unfold maxLen;omega) (by omega) (by simp) ?_;intro v1 w1 hown1 hg1 hv1))
    go_ret;exact⟨v1,rfl,by simpa using hown1,((ay _ _).alloc (au _) _).grown hg1 (by simp) (by intro k hk;simp[Value.ownBlock] at hk;omega)⟩
theorem GY (L:List Lf) (A:Option Addr) (n c:Nat) (w:World) (hn:n=L.length) (h:Rd w w.heap.size 4 (.slice A n c) n (gv L)) (hl:n≤100000) :
    Calls Tryz.prog 34 #[.slice A n c] w fun e w'=>∃v,e=.returned v∧w'.ownsRow w.heap.size 42 4 v n (gv L)∧Below w.heap.size w w':=by
  have hnil:=fun (W:World)=>Lib.run_eql_slice_nil (P:=Tryz.prog) W
  cases A with
  | none=>
    obtain⟨h1,A',c',h2,h3,h4,h5,h6⟩:=h
    cases h2;have hc:=h5 rfl;subst hc;obtain rfl:n=0:=by omega
    obtain rfl:L=[]:=bN hn.symm;clear h1 h4 h5 h6 h3 hn hl;go_enter Tryz.func34,Tryz.ntmps34;go_wp2;go_ret;exact⟨_,rfl,⟨rfl,.inl ⟨rfl,rfl⟩⟩,ay _ _⟩
  | some A=>
    obtain⟨i0,hi,hz0,hz1,hz2⟩:=cL Tryz.infoLeaf;have H:=ac h;clear h;go_enter Tryz.func34,Tryz.ntmps34
    go_wp2_with (first
      | (at_builtin
         refine gE rfl (.tmp 5) (.tmp 6) 22 rfl w.heap.size 42 i0 _ 4 40 Tryz.underlying22 hi hz0 hz1 hz2 rfl (by decide) (.slice (some ⟨w.heap.size,0,none⟩) 0 0) 0 [] rfl (World.ownsRow_made _ _ _ (au _) (by unfold maxLen;omega) (by simp)) (.slice (some A) n c) n w.heap.size (gv L) rfl (H.out.keep (by go_grown) (au _)) (Jp L) (by unfold maxLen;omega) (by omega) (by simp) ?_;intro v1 w1 hown1 hg1 hv1))
    go_ret;exact⟨v1,rfl,by simpa using hown1,((ay _ _).alloc (au _) _).grown hg1 (by simp) (by intro k hk;simp[Value.ownBlock] at hk;omega)⟩
theorem FU (i n c:Nat) (A:Option Addr) (h:i<n) (hn:n≤100000) (w:World):AZ 97 #[.slice A n c,.int .i64 (i:Int)] w (.bool true):=by
  have u1:(0:Int)≤(i:Int):=by omega
  have u2:(i:Int)<(n:Int):=by omega
  go_enter Tryz.func97,Tryz.ntmps97;go_wp2;go_ret;exact⟨rfl,rfl⟩
theorem Lv (i n c:Nat) (A:Option Addr) (w:World) (hL:L.length≤90000) (h1:1≤n) (hle:i+n≤L.length) (hin:∀j,1≤j→j<n→∃y,L[i+j]? = some y∧(i:Int)≤y.up) (hnx:∀z,L[i+n]? = some z→z.up<(i:Int)) (hr:Rd w w.heap.size 4 (.slice A L.length c) L.length (fm L)) :
    AZ 99 #[.slice A L.length c,.int .i64 (i:Int)] w (.int .i64 ((i+n:Nat):Int)):=by
  have ci:=FU i L.length c A (by omega) (by omega);have H:=ac (ae hin (ae hnx (ae hr ci)));clear hin hnx hr ci;go_enter Tryz.func99,Tryz.ntmps99;go_wp2_with (
    (go_at_call 97;refine(H.out.2.2.2 _).mono ?_;rintro e w1 ⟨rfl,rfl⟩))
  go_loopw [5] (fun k wr=>∃q:Nat,i+1≤q∧q≤i+n∧k=.int .i64 (q:Int)∧wr=w1) (fun k _=>L.length-(intOf k).toNat)
  case atStart=>exact⟨i+1,au _,by omega,by go_num,rfl⟩
  case round=>
    obtain⟨q,hj1,hj2,rfl,hw⟩:=hrel;obtain rfl:=hw.symm;by_cases hlt:q<i+n
    ·obtain⟨y,hy,hup⟩:=H.out.1 (q-i) (by omega) (by omega);rw[show i+(q-i)=q by omega] at hy;obtain⟨g,o,rfl,_,hc⟩:=fW gu H.out.2.2.1 hy rfl;have y3:w1.cell? ⟨g,o+q*4+3,none⟩=some (.int .i64 y.up):=hc 3 _ rfl;have u1:(q:Int)<(L.length:Int):=by omega
     have u2:(0:Int)≤(q:Int):=by omega
     have t1:decide ((i:Int)≤y.up)=true:=aG hup;clear hc hy hup;go_wp2_with fail;exact⟨⟨q+1,by omega,by omega,by go_num,trivial⟩,by simp[intOf];omega⟩
    ·have e:q=i+n:=by omega
     have HQ:=ac e;by_cases hql:q<L.length
     ·obtain⟨z,hz⟩:∃z,L[q]? = some z:=⟨_,ax hql⟩;have hup:=H.out.2.1 z (by rw[←e];exact hz);obtain⟨g,o,rfl,_,hc⟩:=fW gu H.out.2.2.1 hz rfl;have y3:w1.cell? ⟨g,o+q*4+3,none⟩=some (.int .i64 z.up):=hc 3 _ rfl;have u1:(q:Int)<(L.length:Int):=by omega
      have u2:(0:Int)≤(q:Int):=by omega
      have t1:decide ((i:Int)≤z.up)=false:=aE (by omega);clear hc hz hup e;go_wp2_with fail;go_ret;exact⟨by show Ending.returned (.int .i64 (q:Int))=_;congr 2;have:=HQ.out;omega,rfl⟩
     ·have u1:¬(q:Int)<(L.length:Int):=by omega
      clear e;go_wp2_with fail;go_ret;exact⟨by show Ending.returned (.int .i64 (q:Int))=_;congr 2;have:=HQ.out;omega,rfl⟩
def zO (i:Nat) (x:Nd):Nd:=⟨x.kd,x.fr,x.tt,x.up-(i:Int)⟩
theorem ku {q:Nd} (h:ys[k]? = some q) (j:Nat) (hj:j<4):(fm ys)[k*4+j]? = (Dv q)[j]? := by
  obtain⟨hk,rfl⟩:=az.1 h;have e:ys=ys.take k++(ys[k]::ys.drop (k+1)):=by rw[←cq hk,cE]
  have hl:(fm (ys.take k)).length=k*4:=by rw[lg,bz];omega
  rw[show fm ys=fm (ys.take k)++(Dv ys[k]++fm (ys.drop (k+1))) by (conv=>lhs;rw[e,mj]);rfl];rw[aP (by omega),hl,show k*4+j-k*4=j by omega,aU (by rw[gu];exact hj)]
theorem Jy {q:Nd} (h:ys[k]? = some q):(fm ((ys.take k).map (zO i)++ys.drop k)).set (k*4+3) (.int .i64 (q.up-(i:Int)))=fm ((ys.take (k+1)).map (zO i)++ys.drop (k+1)):=by
  obtain⟨hk,rfl⟩:=az.1 h;have hl:(fm ((ys.take k).map (zO i))).length=k*4:=by rw[lg,bE,bz];omega
  rw[cq hk,mj,dt _ _ (by omega),hl,show k*4+3-k*4=3 by omega,
    bS hk,bG,aW,mj]
  rfl
structure rT (L S:List Nd) (i:Nat):Prop where
  le:i+S.length≤L.length
  pos:0<S.length
  row:∀(j:Nat) (x:Nd),S[j]? = some x→∃y,L[i+j]? = some y∧y.kd=x.kd∧y.fr=x.fr∧y.tt=x.tt∧(0<j→0≤x.up∧y.up=x.up+(i:Int))∧(j=0→x.up = -1)
  nxt:∀z,L[i+S.length]? = some z→z.up<(i:Int)
theorem rT.mid {L:List Nd} (h:rT L S i):((L.drop i).take S.length).length=S.length:=by
  rw[bz,aZ];have:=h.le;omega
theorem rT.get {L:List Nd} {j:Nat} (hj:j<S.length):((L.drop i).take S.length)[j]? = L[i+j]? := by
  rw[List.getElem?_take_of_lt hj,bv]
theorem rT.fin {L:List Nd} (h:rT L S i):(fm (((L.drop i).take S.length).map (zO i))).set 3 (.int .i64 (-1))=fm S:=by
  have key:∀j,0<j→j<S.length→(((L.drop i).take S.length).map (zO i))[j]? = S[j]? := fun j h0 hj=>by
    obtain⟨x,hx⟩:∃x,S[j]? = some x:=⟨_,ax hj⟩;obtain⟨y,h1,h2,h3,h4,h5,_⟩:=h.row j x hx;rw[aV,rT.get hj,h1,hx];obtain⟨_,h6⟩:=h5 h0;show some (zO i y)=some x;unfold zO;rw[h2,h3,h4,h6];congr 1;obtain⟨a,b,c,d⟩:=x;simp
  have hlen:(((L.drop i).take S.length).map (zO i)).length=S.length:=by rw[bE];exact h.mid
  cases hS:S with
  | nil=>have:=h.pos;rw[hS] at this;simp at this
  | cons x r=>
    obtain⟨y,h1,h2,h3,h4,_,h6⟩:=h.row 0 x (by rw[hS];rfl);have e:((L.drop i).take S.length).map (zO i)=zO i y::r:=by
      apply List.ext_getElem?;intro j;rcases bC j S.length with hj|hj
      ·cases j with
       | zero=>rw[aV,rT.get hj,h1];rfl
       | succ j=>rw[key (j+1) (by omega) hj,hS];rfl
      ·rw[bI (by omega),bI (by rw[hS] at hj;simpa using hj)]
    rw[←hS,e];show (Dv (zO i y)++fm r).set 3 _=_;rw[hS];show _=Dv x++fm r;rw[List.set_append_left _ _ (by rw[gu];omega)];congr 1;have h7:=h6 rfl;obtain⟨a,b,c,d⟩:=x;simp only at h2 h3 h4 h7;subst h7;unfold Dv zO;simp only[h2,h3,h4];rfl
theorem Nb (S:List Nd) (i c:Nat) (A:Option Addr) (w:World) (hL:L.length≤90000) (h:rT L S i) (hup:∀x∈L, -1≤x.up∧x.up≤100000) (hr:Rd w w.heap.size 4 (.slice A L.length c) L.length (fm L)) :
    Calls Tryz.prog 85 #[.slice A L.length c,.int .i64 (i:Int)] w fun e w'=>∃v,e=.returned v∧w'.ownsRow w.heap.size 52 4 v S.length (fm S)∧Below w.heap.size w w':=by
  obtain⟨n,hn⟩:∃n,n=S.length:=⟨_,rfl⟩;have hle:=h.le;have hpos:=h.pos;have hfin:=h.fin;have hmid:=h.mid;have ce:=Lv L i S.length c A w hL hpos hle (fun j h1 h2=>by
    obtain⟨y,e1,_,_,_,e2,_⟩:=h.row j _ (ax h2);exact⟨y,e1,by have:=e2 h1;omega⟩) h.nxt hr
  obtain⟨M,hM⟩:∃M,M=(L.drop i).take S.length:=⟨_,rfl⟩;rw[←hM] at hfin hmid;rw[←hn] at hle hpos hmid ce hM ⊢;have ci:=FU i L.length c A (by omega) (by omega);obtain⟨x0,hx0⟩:∃x,L[i]? = some x:=⟨_,ax (by omega)⟩;obtain⟨g,o,rfl,hgl,_⟩:=fW gu hr hx0 rfl;obtain⟨q1,q2⟩:L.length≤c∧c≤maxLen:=by
    obtain⟨_,A',c',e,e1,e2,_⟩:=hr
    cases e;exact⟨e1,e2⟩
  have hrm:Rd w w.heap.size 4 (.slice (some ⟨g,o+i*4,none⟩) n (c-i)) n (fm M):=by
    obtain⟨e1,A',c',e2,e3,e4,e5,e6⟩:=hr
    cases e2;obtain⟨_,_,e7,_,e8⟩:=e6 (by omega)
    cases e7;refine⟨by rw[lg,hmid],some ⟨g,o+i*4,none⟩,c-i,rfl,by omega,by omega,(fun h=>by cases h),fun _=>⟨g,o+i*4,rfl,hgl,fun j u hj=>?_⟩⟩;have hjl:j<n*4:=by have:=(az.1 hj).1;rw[lg,hmid] at this;exact this
    obtain⟨x,hx⟩:∃x,M[j/4]? = some x:=⟨_,ax (by omega)⟩;have hx2:L[i+j/4]? = some x:=by
      rw[hM] at hx;rw[hn] at hjl;rw[hn,rT.get (by omega)] at hx;exact hx
    have h1:=ku hx (j%4) (Nat.mod_lt _ (by omega));rw[show j/4*4+j%4=j by omega,hj] at h1;have h2:=ku hx2 (j%4) (Nat.mod_lt _ (by omega));rw[←h1] at h2
    have:=e8 _ _ h2
    rwa [show o+((i+j/4)*4+j%4)=o+i*4+j by omega] at this
  have u3:(i:Int)+(n:Int)≤(c:Int):=by omega
  have u4:(0:Int)≤(i:Int):=by omega
  have u5:¬c=i:=by omega
  have hupM:∀(k:Nat) (q:Nd),M[k]? = some q → -1≤q.up∧q.up≤100000:=fun k q hq=>hup q (by
    have:=aI hq
    rw[hM] at this;exact di (cC this))
  have HM:=ac hmid.symm;have HU:=ac hupM;clear hupM hup;have H:=ac (ae ce (ae ci (ae hrm (ae hfin hr))));clear ce ci hrm hfin hr hM hx0 h hn hmid;go_enter Tryz.func85,Tryz.ntmps85
  go_wp2_with (first
    | (go_at_call 97;with_reducible refine(H.out.2.1 _).mono ?_
       rintro e w1 ⟨rfl,rfl⟩)
    | (go_at_call 99;with_reducible refine(H.out.1).mono ?_
       rintro e w1 ⟨rfl,rfl⟩)
    | (go_at_call 98;with_reducible refine(GX M (some ⟨g,o+i*4,none⟩) n (c-i) _ HM.out H.out.2.2.1 (by omega)).mono ?_
       rintro e w2 ⟨v2,rfl,ho,hb⟩;obtain⟨A2,n2,c2,rfl⟩:=eA ho;obtain rfl:=ff ho;obtain⟨g2,rfl⟩:=mP ho hpos;have H2:=ac (ae ho hb);clear ho hb)
    | fail)
  go_loopw [20] (fun s20 wr=>∃k:Nat,k≤n2∧s20=.int .i64 (k:Int)∧wr.ownsRow w1.heap.size 52 4 (.slice (some ⟨g2,0,none⟩) n2 c2) n2 (fm ((M.take k).map (zO i)++M.drop k))∧Below w1.heap.size w1 wr) (fun s20 _=>n2-(intOf s20).toNat)
  case atStart=>exact⟨0,bq _,rfl,H2.out.1,H2.out.2⟩
  case round=>
    obtain⟨k,hk,rfl,hown,hbl⟩:=hrel;by_cases hlt:k<n2
    ·have u1:(k:Int)<(n2:Int):=by omega
     have u2:(0:Int)≤(k:Int):=by omega
     obtain⟨q,hqk⟩:∃q,M[k]? = some q:=⟨_,ax (by have:=HM.out;omega)⟩;have hq9:=HU.out k q hqk;have hput:=Jy (i:=i) hqk;have hg2:((M.take k).map (zO i)++M.drop k)[k]? = some q:=by
       rw[aP (by simp;omega)]
       have:=HM.out
       simp[bv,hqk,cU (show k≤M.length by omega)]
     have y1:wr.cell? ⟨g2,k*4+3,none⟩=some (.int .i64 q.up):=eM hown _ _ (by rw[ku hg2 3 (by omega)];rfl);have f1:=fZ hown (k*4+3);have v1:IntKind.i64.wrap (q.up-(i:Int))=q.up-(i:Int):=aO _ (by omega);have hs1:=hown.stored (k*4+3) (.int .i64 (q.up-(i:Int)));rw[hput] at hs1;have HS:=ac (ae hs1 hbl);clear hs1 hput hg2 hown hbl hqk hq9;go_wp2_with fail;exact⟨⟨k+1,by omega,by go_num,HS.out.1.1,HS.out.2.grown HS.out.1.2 HS.out.2.size (fun k hk=>by injection hk with hk;have:=(H2.out.1.lt g2 rfl).1;omega)⟩,by simp[intOf];omega⟩
    ·obtain rfl:k=n2:=by omega
     have e1:M.take k=M:=bR (by have:=HM.out;omega);have e2:M.drop k=[]:=dD (by have:=HM.out;omega);rw[e1,e2,bB] at hown;obtain⟨q0,hq0⟩:∃q,(M.map (zO i))[0]? = some q:=⟨_,ax (by rw[bE];have:=HM.out;omega)⟩;have y1:wr.cell? ⟨g2,3,none⟩=some (.int .i64 q0.up):=eM hown _ _ (by have:=ku hq0 3 (by omega);rw[Nat.zero_mul,dv] at this;rw[this];rfl);have f1:=fZ hown 3;have hs1:=hown.stored 3 (.int .i64 (-1));rw[H.out.2.2.2.1] at hs1;have HS:=ac (ae hs1 hbl);have u1:¬(k:Int)<(k:Int):=by omega
     have u2:(0:Int)<(k:Int):=by omega
     clear hs1 hown hbl e1 e2 hq0;go_wp2_with fail;go_ret;exact⟨_,rfl,HS.out.1.1,HS.out.2.grown HS.out.1.2 HS.out.2.size (fun k hk=>by injection hk with hk;have:=(H2.out.1.lt g2 rfl).1;omega)⟩
def mT:List Lf→List Lf→Nat
  | a::A,b::B=>if Cn a b=true then mT A B+1 else 0
  | _,_=>0
theorem qy {A B:List Lf} {n:Nat} (hx:A[n]? = some x) (hy:B[n]? = some y):mT (A.drop n) (B.drop n)=if Cn x y=true then mT (A.drop (n+1)) (B.drop (n+1))+1 else 0:=by
  obtain⟨a1,a2⟩:=az.1 hx;obtain⟨b1,b2⟩:=az.1 hy;rw[cq a1,cq b1,a2,b2];rfl
theorem oI {A B:List Lf} {n:Nat} (h:A.length≤n∨B.length≤n):mT (A.drop n) (B.drop n)=0:=by
  rcases h with h|h
  ·rw[dD h];unfold mT;rfl
  ·rw[dD h];cases A.drop n<;>(unfold mT;rfl)
theorem Ii (A B:List Lf) (P Q:Option Addr) (c d:Nat) (w:World) (hA:A.length≤900) (hB:B.length≤900) (hp:Rd w w.heap.size 4 (.slice P A.length c) A.length (gv A)) (hq:Rd w w.heap.size 4 (.slice Q B.length d) B.length (gv B)) :
    jJ 13 #[.slice P A.length c,.slice Q B.length d] w (.int .i64 (mT A B:Int)):=by
  have H:=ac (ae hp hq);clear hp hq;go_enter Tryz.func13,Tryz.ntmps13;go_wp2_with fail;go_loopw [5] (fun k wr=>∃n:Nat,n≤A.length∧k=.int .i64 (n:Int)∧mT A B=n+mT (A.drop n) (B.drop n)∧Below w.heap.size w wr) (fun k _=>A.length-(intOf k).toNat)
  case atStart=>exact⟨0,bq _,rfl,by simp,ay _ _⟩
  case round=>
    obtain⟨n,hn,rfl,hh,hb⟩:=hrel;by_cases h1:n<A.length
    ·by_cases h2:n<B.length
     ·obtain⟨x,hx⟩:∃x,A[n]? = some x:=⟨_,ax h1⟩;obtain⟨y,hy⟩:∃y,B[n]? = some y:=⟨_,ax h2⟩;rw[qy hx hy] at hh;obtain⟨g1,o1,rfl,x0,x1,x2,x3⟩:=gZ (H.out.1.keep hb (au _)) hx rfl;obtain⟨g2,o2,rfl,y0,y1,y2,y3⟩:=gZ (H.out.2.keep hb (au _)) hy rfl;have u1:(n:Int)<(A.length:Int):=by omega
      have u2:(n:Int)<(B.length:Int):=by omega
      have u3:(0:Int)≤(n:Int):=by omega
      have ca:=Cl x y;obtain⟨b,hbb⟩:∃b,b=Cn x y:=⟨_,rfl⟩;rw[←hbb] at ca hh;have HW:=ac (show Below w.heap.size w wr.drew from dX hb 1);have HC:=ac (ae ca hh);clear ca hh hb hx hy hbb;replace x0:wr.drew.cell? ⟨g1,o1+n*4,none⟩=some (.int .i64 x.kd):=x0;replace x1:wr.drew.cell? ⟨g1,o1+n*4+1,none⟩=some (.string ⟨x.tx.toArray⟩):=x1;replace x2:wr.drew.cell? ⟨g1,o1+n*4+2,none⟩=some (.int .i64 x.fr):=x2;replace x3:wr.drew.cell? ⟨g1,o1+n*4+3,none⟩=some (.int .i64 x.to):=x3;replace y0:wr.drew.cell? ⟨g2,o2+n*4,none⟩=some (.int .i64 y.kd):=y0;replace y1:wr.drew.cell? ⟨g2,o2+n*4+1,none⟩=some (.string ⟨y.tx.toArray⟩):=y1;replace y2:wr.drew.cell? ⟨g2,o2+n*4+2,none⟩=some (.int .i64 y.fr):=y2;replace y3:wr.drew.cell? ⟨g2,o2+n*4+3,none⟩=some (.int .i64 y.to):=y3
      cases b;all_goals (
        go_wp2_with fail
        go_region_held3 (fun w'=>w'.cell? ⟨g1,o1+n*4,none⟩=some (.int .i64 x.kd)∧w'.cell? ⟨g1,o1+n*4+1,none⟩=some (.string ⟨x.tx.toArray⟩)∧w'.cell? ⟨g1,o1+n*4+2,none⟩=some (.int .i64 x.fr)∧w'.cell? ⟨g1,o1+n*4+3,none⟩=some (.int .i64 x.to)∧w'.cell? ⟨g2,o2+n*4,none⟩=some (.int .i64 y.kd)∧w'.cell? ⟨g2,o2+n*4+1,none⟩=some (.string ⟨y.tx.toArray⟩)∧w'.cell? ⟨g2,o2+n*4+2,none⟩=some (.int .i64 y.fr)∧w'.cell? ⟨g2,o2+n*4+3,none⟩=some (.int .i64 y.to))
         (first|with_reducible exact⟨x0,x1,x2,x3,y0,y1,y2,y3⟩|exact⟨x0,x1,x2,x3,y0,y1,y2,y3⟩)
         (
          (go_at_call 35;refine(HC.out.1 _).mono ?_;rintro e w2 ⟨rfl,hb2⟩;have HW2:=ac (HW.out.trans (hb2.mono HW.out.size));have x0:=jc hb2 x0;have x1:=jc hb2 x1;have x2:=jc hb2 x2;have x3:=jc hb2 x3;have y0:=jc hb2 y0;have y1:=jc hb2 y1;have y2:=jc hb2 y2;have y3:=jc hb2 y3;clear hb2)))
      ·have e:=HC.out.2;rw[aC dk,cQ] at e;have HE:=ac e;clear e x0 x1 x2 x3 y0 y1 y2 y3;go_wp2_with fail;go_ret;exact⟨by rw[HE.out];rfl,HW2.out⟩
      ·have e:=HC.out.2;rw[aB trivial] at e;have HE:=ac e;clear e x0 x1 x2 x3 y0 y1 y2 y3;go_wp2_with fail;exact⟨⟨n+1,by omega,by go_num,by rw[HE.out];omega,HW2.out⟩,by simp[intOf];omega⟩
     ·have e:=oI (A:=A) (B:=B) (n:=n) (.inr (by omega));rw[e,cQ] at hh;have HE:=ac (ae hh hb);have u1:(n:Int)<(A.length:Int):=by omega
      have u2:¬(n:Int)<(B.length:Int):=by omega
      clear hh hb e;go_wp2_with fail;go_quiet (fail);go_wp2_with fail;go_ret;exact⟨by rw[HE.out.1];rfl,dX HE.out.2 _⟩
    ·have e:=oI (A:=A) (B:=B) (n:=n) (.inl (by omega));rw[e,cQ] at hh;have HE:=ac (ae hh hb);have u1:¬(n:Int)<(A.length:Int):=by omega
     clear hh hb e;go_wp2_with fail;go_quiet (fail);go_wp2_with fail;go_ret;exact⟨by rw[HE.out.1];rfl,dX HE.out.2 _⟩
def zE (A B:List Lf):Nat:=mT A.reverse B.reverse
theorem Lw (A B:List Lf) (P Q:Option Addr) (c d:Nat) (w:World) (hA:A.length≤900) (hB:B.length≤900) (hp:Rd w w.heap.size 4 (.slice P A.length c) A.length (gv A)) (hq:Rd w w.heap.size 4 (.slice Q B.length d) B.length (gv B)) :
    jJ 14 #[.slice P A.length c,.slice Q B.length d] w (.int .i64 (zE A B:Int)):=by
  have H:=ac (ae hp hq);clear hp hq;go_enter Tryz.func14,Tryz.ntmps14;go_wp2_with fail;go_loopw [5] (fun k wr=>∃n:Nat,n≤A.length∧k=.int .i64 (n:Int)∧zE A B=n+mT (A.reverse.drop n) (B.reverse.drop n)∧Below w.heap.size w wr) (fun k _=>A.length-(intOf k).toNat)
  case atStart=>exact⟨0,bq _,rfl,by unfold zE;simp,ay _ _⟩
  case round=>
    obtain⟨n,hn,rfl,hh,hb⟩:=hrel;by_cases h1:n<A.length
    ·by_cases h2:n<B.length
     ·obtain⟨ix1,hia⟩:∃i,i=A.length-1-n:=⟨_,rfl⟩;obtain⟨ix2,hib⟩:∃i,i=B.length-1-n:=⟨_,rfl⟩;obtain⟨x,hx⟩:∃x,A[ix1]? = some x:=⟨_,ax (by omega)⟩;obtain⟨y,hy⟩:∃y,B[ix2]? = some y:=⟨_,ax (by omega)⟩;rw[qy (A:=A.reverse) (B:=B.reverse) (n:=n) (x:=x) (y:=y) (by rw[dR h1,←hia];exact hx) (by rw[dR h2,←hib];exact hy)] at hh;have v1:IntKind.i64.wrap ((A.length:Int)-1)=(A.length:Int)-1:=aO _ (by omega);have v2:IntKind.i64.wrap ((A.length:Int)-1-(n:Int))=(ix1:Int):=by rw[aO _ (by omega)];omega
      have v3:IntKind.i64.wrap ((B.length:Int)-1)=(B.length:Int)-1:=aO _ (by omega);have v4:IntKind.i64.wrap ((B.length:Int)-1-(n:Int))=(ix2:Int):=by rw[aO _ (by omega)];omega
      have w1:(ix1:Int)<(A.length:Int):=by omega
      have w2':(ix2:Int)<(B.length:Int):=by omega
      have w3:(0:Int)≤(ix1:Int):=by omega
      have w4:(0:Int)≤(ix2:Int):=by omega
      obtain⟨g1,o1,rfl,x0,x1,x2,x3⟩:=gZ (H.out.1.keep hb (au _)) hx rfl;obtain⟨g2,o2,rfl,y0,y1,y2,y3⟩:=gZ (H.out.2.keep hb (au _)) hy rfl;have u1:(n:Int)<(A.length:Int):=by omega
      have u2:(n:Int)<(B.length:Int):=by omega
      have u3:(0:Int)≤(n:Int):=by omega
      have ca:=Cl x y;obtain⟨b,hbb⟩:∃b,b=Cn x y:=⟨_,rfl⟩;rw[←hbb] at ca hh;have HW:=ac (show Below w.heap.size w wr.drew from dX hb 1);have HC:=ac (ae ca hh);clear ca hh hb hx hy hbb hia hib;replace x0:wr.drew.cell? ⟨g1,o1+ix1*4,none⟩=some (.int .i64 x.kd):=x0;replace x1:wr.drew.cell? ⟨g1,o1+ix1*4+1,none⟩=some (.string ⟨x.tx.toArray⟩):=x1;replace x2:wr.drew.cell? ⟨g1,o1+ix1*4+2,none⟩=some (.int .i64 x.fr):=x2;replace x3:wr.drew.cell? ⟨g1,o1+ix1*4+3,none⟩=some (.int .i64 x.to):=x3;replace y0:wr.drew.cell? ⟨g2,o2+ix2*4,none⟩=some (.int .i64 y.kd):=y0;replace y1:wr.drew.cell? ⟨g2,o2+ix2*4+1,none⟩=some (.string ⟨y.tx.toArray⟩):=y1;replace y2:wr.drew.cell? ⟨g2,o2+ix2*4+2,none⟩=some (.int .i64 y.fr):=y2;replace y3:wr.drew.cell? ⟨g2,o2+ix2*4+3,none⟩=some (.int .i64 y.to):=y3
      cases b;all_goals (
        go_wp2_with fail
        go_region_held3 (fun w'=>w'.cell? ⟨g1,o1+ix1*4,none⟩=some (.int .i64 x.kd)∧w'.cell? ⟨g1,o1+ix1*4+1,none⟩=some (.string ⟨x.tx.toArray⟩)∧w'.cell? ⟨g1,o1+ix1*4+2,none⟩=some (.int .i64 x.fr)∧w'.cell? ⟨g1,o1+ix1*4+3,none⟩=some (.int .i64 x.to)∧w'.cell? ⟨g2,o2+ix2*4,none⟩=some (.int .i64 y.kd)∧w'.cell? ⟨g2,o2+ix2*4+1,none⟩=some (.string ⟨y.tx.toArray⟩)∧w'.cell? ⟨g2,o2+ix2*4+2,none⟩=some (.int .i64 y.fr)∧w'.cell? ⟨g2,o2+ix2*4+3,none⟩=some (.int .i64 y.to))
         (first|with_reducible exact⟨x0,x1,x2,x3,y0,y1,y2,y3⟩|exact⟨x0,x1,x2,x3,y0,y1,y2,y3⟩)
         (
          (go_at_call 35;refine(HC.out.1 _).mono ?_;rintro e w2 ⟨rfl,hb2⟩;have HW2:=ac (HW.out.trans (hb2.mono HW.out.size));have x0:=jc hb2 x0;have x1:=jc hb2 x1;have x2:=jc hb2 x2;have x3:=jc hb2 x3;have y0:=jc hb2 y0;have y1:=jc hb2 y1;have y2:=jc hb2 y2;have y3:=jc hb2 y3;clear hb2)))
      ·have e:=HC.out.2;rw[aC dk,cQ] at e;have HE:=ac e;clear e x0 x1 x2 x3 y0 y1 y2 y3;go_wp2_with fail;go_ret;exact⟨by rw[HE.out];rfl,HW2.out⟩
      ·have e:=HC.out.2;rw[aB trivial] at e;have HE:=ac e;clear e x0 x1 x2 x3 y0 y1 y2 y3;go_wp2_with fail;exact⟨⟨n+1,by omega,by go_num,by rw[HE.out];omega,HW2.out⟩,by simp[intOf];omega⟩
     ·have e:=oI (A:=A.reverse) (B:=B.reverse) (n:=n) (.inr (by rw[List.length_reverse];omega));rw[e,cQ] at hh;have HE:=ac (ae hh hb);have u1:(n:Int)<(A.length:Int):=by omega
      have u2:¬(n:Int)<(B.length:Int):=by omega
      clear hh hb e;go_wp2_with fail;go_quiet (fail);go_wp2_with fail;go_ret;exact⟨by rw[HE.out.1];rfl,dX HE.out.2 _⟩
    ·have e:=oI (A:=A.reverse) (B:=B.reverse) (n:=n) (.inl (by rw[List.length_reverse];omega));rw[e,cQ] at hh;have HE:=ac (ae hh hb);have u1:¬(n:Int)<(A.length:Int):=by omega
     clear hh hb e;go_wp2_with fail;go_quiet (fail);go_wp2_with fail;go_ret;exact⟨by rw[HE.out.1];rfl,dX HE.out.2 _⟩
structure Oi (S R:List Nd) (z:Int) (u b:Nat):Prop where
  len:R.length=S.length
  pos:0<S.length
  row:∀(j:Nat) (x y:Nd),S[j]? = some x→R[j]? = some y→y.kd=x.kd∧(y.fr:Int)=(x.fr:Int)+z∧(y.tt:Int)=(x.tt:Int)+z∧(j=0→y.up=(u:Int))∧(0<j→y.up=x.up+(b:Int))∧x.fr≤100000∧x.tt≤100000 ∧ -100000≤x.up∧x.up≤100000
theorem F7 (S R:List Nd) (z:Int) (u ks cs:Nat) (h:Ul g C r p kp lv W) (hR:Oi S R z u r.length) (hr:r.length+S.length≤90000) (hz : -100000≤z∧z≤100000) (hS:W.ownsRow ks 52 4 (.slice (some ⟨ks,0,none⟩) S.length cs) S.length (fm S)) (hgk:g<ks) (hne:lv.ownBlock≠some ks) :
    Calls Tryz.prog 64 #[.pointer (some ⟨g,0,none⟩),.int .i64 (u:Int),.slice (some ⟨ks,0,none⟩) S.length cs,.int .i64 z] W fun e w'=>e=.returned (.tuple #[])∧Um g C (r++R) ((R.head?.map Nd.tt).getD 0) kp w'∧jQ g W w':=by
  obtain⟨i0,hi0,hz0,hz1,hz2⟩:=cL Tryz.infoNode;obtain⟨A,n,c,rfl⟩:=eA h.r;obtain rfl:=ff h.r;obtain⟨_,_,_,_,_,_,c6,_,_⟩:=h.cells;have H:=ac (ae h (ae hR (ae hS hne)));have hlen:=hR.len;have hpos:=hR.pos;clear h hR hS hne;go_enter Tryz.func64,Tryz.ntmps64;go_wp2_with fail;clear c6;go_loopw [18] (fun i wr=>∃(k:Nat) (l2:Value),k≤S.length∧i=.int .i64 (k:Int)∧Ul g C (r++R.take k) p kp l2 wr∧jQ g W wr∧wr.ownsRow ks 52 4 (.slice (some ⟨ks,0,none⟩) S.length cs) S.length (fm S)∧l2.ownBlock≠some ks) (fun i _=>S.length-(intOf i).toNat)
  case atStart=>exact⟨0,_,bq _,rfl,by simpa using H.out.1,jQ.refl _ _,H.out.2.2.1,H.out.2.2.2⟩
  case round=>
    obtain⟨k,l2,hk,rfl,hU,hF,hS,hne⟩:=hrel;by_cases hlt:k<S.length
    ·obtain⟨x,hx⟩:∃x,S[k]? = some x:=⟨_,ax hlt⟩;obtain⟨y,hy⟩:∃y,R[k]? = some y:=⟨_,ax (by omega)⟩;obtain⟨e1,e2,e3,e4,e5,e6,e7,e8,e9⟩:=H.out.2.1.row k x y hx hy;have x0:wr.cell? ⟨ks,k*4,none⟩=some (.int .i64 (x.kd:Int)):=eM hS _ _ (by have:=ku hx 0 (by omega);rw[cQ] at this;rw[this];rfl);have x1:wr.cell? ⟨ks,k*4+1,none⟩=some (.int .i64 (x.fr:Int)):=eM hS _ _ (by rw[ku hx 1 (by omega)];rfl);have x2:wr.cell? ⟨ks,k*4+2,none⟩=some (.int .i64 (x.tt:Int)):=eM hS _ _ (by rw[ku hx 2 (by omega)];rfl);have x3:wr.cell? ⟨ks,k*4+3,none⟩=some (.int .i64 x.up):=eM hS _ _ (by rw[ku hx 3 (by omega)];rfl);have v1:IntKind.i64.wrap ((x.fr:Int)+z)=(x.fr:Int)+z:=aO _ (by omega);have v2:IntKind.i64.wrap ((x.tt:Int)+z)=(x.tt:Int)+z:=aO _ (by omega);have v3:IntKind.i64.wrap (x.up+(r.length:Int))=x.up+(r.length:Int):=aO _ (by omega);have u1:(k:Int)<(S.length:Int):=by omega
     have u2:(0:Int)≤(k:Int):=by omega
     have HY:=ac (ae e1 (ae e2 (ae e3 (ae e4 (ae e5 hy)))));have HU:=ac (ae hU (ae hF (ae hS hne)));clear e1 e2 e3 e4 e5 hy hx hU hF hS hne;have hks:=(HU.out.2.2.1.lt ks rfl).2;obtain⟨A2,n2,c2,rfl⟩:=eA HU.out.1.r;have hn2:=ff HU.out.1.r;have hgl:=HU.out.1.w.lt;have hlk:(r++R.take k).length=r.length+k:=by simp;omega
     have htk:r++R.take (k+1)=(r++R.take k)++[y]:=by rw[List.take_add_one,HY.out.2.2.2.2.2,aW];rfl
     obtain⟨r2,hr2⟩:∃r2,r2=r++R.take k:=⟨_,rfl⟩;rw[←hr2] at hn2 hlk htk;have HR2:=ac (ae hr2 (ae htk (ae hn2 hlk)));by_cases hk0:k=0
     case' pos=>
       have ek:(k:Int)=0:=by omega
       have t1:((k:Int)==0)=true:=by rw[ek];rfl
       have HK:=ac hk0;clear hk0 ek htk hr2 hn2 hlk;go_upto_region 7 with fail
       obtain⟨W1,hW1⟩:∃W1,W1=wr.alloc (.cells #[.int .i64 (x.kd:Int),.int .i64 ((x.fr:Int)+z),.int .i64 ((x.tt:Int)+z),.int .i64 (u:Int)] 52):=⟨_,rfl⟩;rw[←hW1];rw[←HY.out.2.2.2.1 HK.out] at hW1
     case' neg=>
       have t1:((k:Int)==0)=false:=aN (by omega);have HK:=ac hk0;clear hk0 htk hr2 hn2 hlk;go_upto_region 7 with fail
       obtain⟨W1,hW1⟩:∃W1,W1=wr.alloc (.cells #[.int .i64 (x.kd:Int),.int .i64 ((x.fr:Int)+z),.int .i64 ((x.tt:Int)+z),.int .i64 (x.up+(r.length:Int))] 52):=⟨_,rfl⟩;rw[←hW1];rw[←HY.out.2.2.2.2.1 (Nat.pos_of_ne_zero HK.out)] at hW1
     all_goals (
       rw[←HY.out.2.1,←HY.out.2.2.1,←HY.out.1] at hW1;clear x0 x1 x2 x3 v1 v2 v3;have hb1:Below wr.heap.size wr W1:=by rw[hW1];exact(ay _ _).alloc (au _) _
       have kb:Bk W1 wr.heap.size 52 #[.int .i64 (y.kd:Int),.int .i64 (y.fr:Int),.int .i64 (y.tt:Int),.int .i64 y.up]:=by rw[hW1];exact Bk.new _ _ _
       have b0:W1.cell? ⟨wr.heap.size,0,none⟩=some (.int .i64 (y.kd:Int)):=by rw[kb.cell];rfl
       have b1:W1.cell? ⟨wr.heap.size,1,none⟩=some (.int .i64 (y.fr:Int)):=by rw[kb.cell];rfl
       have b2:W1.cell? ⟨wr.heap.size,2,none⟩=some (.int .i64 (y.tt:Int)):=by rw[kb.cell];rfl
       have b3:W1.cell? ⟨wr.heap.size,3,none⟩=some (.int .i64 y.up):=by rw[kb.cell];rfl
       have hs1:W1.heap.size=wr.heap.size+1:=by rw[hW1];simp
       have hU1:=HU.out.1.next hb1;rw[←HR2.out.1] at hU1;obtain⟨_,_,_,_,_,_,c6,_,_⟩:=hU1.cells;have f6:=hU1.w.frozen 6;have H1:=ac (ae hU1 (ae (HU.out.2.1.trans (jQ.of hb1 (aM hgl))) (ae (eC HU.out.2.2.1 hb1) hb1)));clear hW1 hb1 kb hU1;have g1:g<W1.heap.size:=by omega
       have hn2:=HR2.out.2.2.1;subst hn2
       go_region_law (first
         | (refine gr rfl (.tmp 46) (.tmp 48) 25 rfl g 52 i0 _ 4 32 Tryz.underlying25 hi0 hz0 hz1 hz2 rfl (by decide) (.slice A2 r2.length c2) r2.length (fm r2) (by simp[Act.eval]) (H1.out.1.r.alloc _) (.slice (some ⟨W1.heap.size,0,none⟩) 1 1) 1 (W1.heap.size+1) (fm [y]) (by simp[Act.eval]) (Rd.drew (iK W1 (fm [y]) 52 4 1 rfl (by omega))) (rp _) (by have:=HR2.out.2.2.2;unfold maxLen;omega) (by have:=HR2.out.2.2.2;omega) (by simp;omega) ?_;intro v1 w1 hown1 hg1 hv1;obtain⟨gn,cn,rfl⟩:=gS hown1;have kk:=(H1.out.1.w.alloc (.cells #[.int .i64 (y.kd:Int),.int .i64 (y.fr:Int),.int .i64 (y.tt:Int),.int .i64 y.up] 52)).drew.grown hg1 (fun e=>eP H1.out.1.r H1.out.1.w (by decide) e.symm);have y6:=kk.cell 6;have z6:=kk.frozen 6;have H3:=ac (ae hown1 (ae hg1 hv1));clear hown1 hg1 hv1 kk))
       all_goals (
         have hbA:Below W1.heap.size W1 (W1.alloc (.cells #[.int .i64 (y.kd:Int),.int .i64 (y.fr:Int),.int .i64 (y.tt:Int),.int .i64 y.up] 52)).drew:=((ay _ W1).alloc (au _) _).drew;have hp:=Ul.push (x:=y) (H1.out.1.next hbA) H3.out.1 H3.out.2.1;have hk2:=World.ownsRow.kept (eC H1.out.2.2.1 hbA) H3.out.2.1 (Or.inr (fun e=>HU.out.2.2.2 e.symm));have hk3:=fh (p:=⟨g,6,none⟩) hk2 (fun e=>by have e2:ks=g:=(dh _ _).mp e;omega) (.slice (some ⟨gn,0,none⟩) (r2.length+1) cn);have hk4:(Value.slice (some ⟨gn,0,none⟩) (r2.length+1) cn).ownBlock≠some ks:=by
           rcases H3.out.2.2 with e|e
           ·rw[e];exact HU.out.2.2.2
           ·rw[e];intro e2;have e3:=(dh _ _).mp e2;simp at e3;omega
         have H4:=ac (ae hp.1 (ae (H1.out.2.1.trans ((jQ.of hbA (aM g1)).trans hp.2)) (ae hk3 hk4)));clear y6 z6 hp hbA hk2 hk3 hk4 H3 b0 b1 b2 b3 c6 f6;generalize w1.setCell {block:=g,off:=6} (Value.slice (some {block:=gn,off:=0}) (r2.length+1) cn)=W3 at *;go_wp2_with fail;refine⟨⟨k+1,_,by omega,by go_num,by rw[HR2.out.2.1];exact H4.out.1,H4.out.2.1,H4.out.2.2.1,H4.out.2.2.2⟩,by simp[intOf];omega⟩))
    ·obtain rfl:k=S.length:=by omega
     rw[←hlen,dc] at hU;obtain⟨y,hy⟩:∃y,R[0]? = some y:=⟨_,ax (by omega)⟩;have hl1:(r++R).length=r.length+S.length:=by simp;omega
     obtain⟨m,hm⟩:∃m,(r++R).length=m+1:=⟨(r++R).length-1,by omega⟩;obtain⟨a2,c2,rfl⟩:∃a2 c2,l2=.slice (some ⟨a2,0,none⟩) (r++R).length c2:=by
       have hr2:=hU.r;rw[hm] at hr2 ⊢;exact gS hr2
     have x6:wr.cell? ⟨g,6,none⟩=some (.slice (some ⟨a2,0,none⟩) (r++R).length c2):=hU.cells.2.2.2.2.2.2.1;have f7:=hU.w.frozen 7;have x7:wr.cell? ⟨g,7,none⟩=some (.int .i64 (p:Int)):=hU.cells.2.2.2.2.2.2.2.1;have hx:(r++R)[r.length]? = some y:=by rw[aP (au _),dB];exact hy
     have x2:wr.cell? ⟨a2,r.length*4+2,none⟩=some (.int .i64 (y.tt:Int)):=eM hU.r _ _ (by rw[ku hx 2 (by omega)];rfl);rw[hl1] at x6;have hd:(R.head?.map Nd.tt).getD 0=y.tt:=by rw[List.head?_eq_getElem?,hy];rfl
     have HU:=ac (ae hU (ae hF hd));have u3:(r.length:Int)<((r.length+S.length:Nat):Int):=by omega
     have u4:(0:Int)≤(r.length:Int):=by omega
     clear hU hF hy hx hd hm;go_wp2_with fail;all_goals go_end0
     all_goals (
       have hp:=HU.out.1.setP y.tt;rw[HU.out.2.2];exact⟨rfl,⟨_,hp.1⟩,HU.out.2.1.trans hp.2⟩)
theorem pC:∀A B:List Lf,mT A B≤A.length∧mT A B≤B.length
  | [],B=>by unfold mT;simp
  | a::A,[]=>by unfold mT;simp
  | a::A,b::B=>by
    have:=pC A B
    unfold mT;split
    ·simp;omega
    ·simp
theorem MR {A B:List Lf} {j:Nat} (hx:A[i]? = some x) (hy:B[j]? = some y) (h:Cn x y=true):kx A i=kx B j:=by
  unfold Cn at h;simp only[aR,bA] at h;unfold kx;rw[hx,hy];simp[h.1,h.2]
theorem AE:∀(A B:List Lf) (i:Nat),i<mT A B→kx A i=kx B i
  | [],B,i,h=>by unfold mT at h;omega
  | a::A,[],i,h=>by unfold mT at h;omega
  | a::A,b::B,i,h=>by
    unfold mT at h;by_cases hc:Cn a b=true
    ·rw[aB hc] at h
     cases i with
     | zero=>exact MR (x:=a) (y:=b) rfl rfl hc
     | succ i=>
       have:=AE A B i (by omega)
       unfold kx at this ⊢;simpa using this
    ·rw[aC hc] at h;omega
theorem qU (A B:List Lf):zE A B≤A.length∧zE A B≤B.length:=by
  have:=pC A.reverse B.reverse
  simpa [zE] using this
theorem FP {A:List Lf} (h:i<A.length):kx A.reverse i=kx A (A.length-1-i):=by
  unfold kx;rw[dR h]
theorem Ls (A B:List Lf) (j:Nat) (h:j<zE A B):kx A (A.length-1-j)=kx B (B.length-1-j):=by
  have h1:=qU A B;rw[←FP (by omega),←FP (by omega)];exact AE _ _ _ h
theorem Ip (A B:List Lf) (n:Nat) (hA:n≤A.length) (hB:n≤B.length):∀j,j<zE (A.drop n) (B.drop n)→kx A (A.length-1-j)=kx B (B.length-1-j):=by
  intro j hj;have h1:=qU (A.drop n) (B.drop n);rw[aZ,aZ] at h1;have h2:=Ls _ _ j hj;rw[aZ,aZ] at h2;unfold kx at h2 ⊢;rw[bv,bv] at h2
  rwa [show n+(A.length-n-1-j)=A.length-1-j by omega,show n+(B.length-n-1-j)=B.length-1-j by omega] at h2
end Go.Proofs.YtmclohkaiemnaaaGreatDoor
