/- Reparse: list: the walk. -/
import Derived.Test.YtmclohkaiemnaaaGreatDoorOl14
import Derived.Test.YtmclohkaiemnaaaGreatDoorUm14
import Derived.Test.YtmclohkaiemnaaaGreatDoorRfz
import Derived.Deep.DeepCutAuto
import Derived.Deep.CutBlock
set_option linter.unusedVariables false
set_option linter.unusedSimpArgs false
set_option maxRecDepth 100000
set_option maxHeartbeats 8000000
namespace Go.Proofs.YtmclohkaiemnaaaGreatDoor
open Go.RowKit
theorem Le.mem {g:Nat} {C:Uc} {P P0:List Nd} {p0 k0:Nat} {fin:Ps} {W:World} {q:Nat} {m:List Nd} {cs:List Nat} {w:World} (h:Le g C P P0 p0 k0 fin W q m cs 0 w) (hn:C.F.length≤900) :
    ∃ga ca v,w.cell? ⟨g,6,none⟩=some (.slice (some ⟨ga,0,none⟩) (P.length+1+m.length) ca)∧w.cell? ⟨g,7,none⟩=some (.int .i64 (q:Int))∧w.frozen? ⟨ga,P.length*4+2,none⟩=false∧w.cell? ⟨ga,P.length*4+2,none⟩=some v∧Le g C P P0 p0 k0 fin W q m cs q (w.setCell ⟨ga,P.length*4+2,none⟩ (.int .i64 (q:Int))):=by
  obtain⟨h1,⟨lv,hU⟩,h3,h4,h5,h6,h7,h8⟩:=h;have hl:(P++⟨2,p0,0,0⟩::m:List Nd).length=P.length+1+m.length:=by rw[aD,aL];omega
  have hr:=hU.r;obtain⟨ga,ca,rfl⟩:∃ga ca,lv=.slice (some ⟨ga,0,none⟩) (P.length+1+m.length) ca:=by
    rw[hl,show P.length+1+m.length=(P.length+m.length)+1 by omega] at hr;obtain⟨ga,ca,e⟩:=gS hr;exact⟨ga,ca,by rw[e];congr 1;omega⟩
  have ht:=hU.setTo P.length q (by rw[hl];omega);rw[lL] at ht;obtain⟨v0,hv0⟩:∃v0,(fm (P++⟨2,p0,0,0⟩::m))[P.length*4+2]? = some v0:=⟨_,ax (by rw[lg,hl];omega)⟩;rw[←hl] at hr;exact⟨ga,ca,v0,hU.cells.2.2.2.2.2.2.1,hU.cells.2.2.2.2.2.2.2.1,fZ hr _,eM hr _ _ hv0,h1,⟨_,ht.1⟩,h3.trans ht.2,h4,h5,h6,h7,h8⟩
theorem Le.drew {g:Nat} {C:Uc} {P P0:List Nd} {p0 k0:Nat} {fin:Ps} {W:World} {q t:Nat} {m:List Nd} {cs:List Nat} {w:World} (h:Le g C P P0 p0 k0 fin W q m cs t w):Le g C P P0 p0 k0 fin W q m cs t w.drew:=by
  obtain⟨h1,h2,h3,h4,h5⟩:=h;exact⟨h1,h2.next (ay _ _).drew,⟨h3.hb.drew,h3.kt.drew⟩,h4,h5⟩
theorem Ig {g:Nat} {C:Uc} {G:List Lf} {P P0:List Nd} {p k0:Nat} {fin:Ps} {W:World} (X:Uk C G) (hP:P0.length=P.length) (h:Um g C P p k0 W) (hp:p<C.F.length) (hb:eN C.F (gO p)=true) (hr:P.length≤16*p+1) (hk0:k0≤P.length) (hf:Ld C.F P.length (P0++[⟨2,p,0,0⟩]) p fin) :
    Calls Tryz.prog 19 #[.pointer (some ⟨g,0,none⟩)] W fun e w'=>e=.returned (.tuple #[])∧∃q m cs,Le g C P P0 p k0 fin W q m cs q w':=by
  obtain⟨i0,hi0,hz0,hz1,hz2⟩:=cL Tryz.infoNode;have hF:=X.hfF.n;obtain⟨lv,h⟩:=h;obtain⟨A,n,c,rfl⟩:=eA h.r;obtain rfl:=ff h.r;obtain⟨_,_,_,_,_,_,c6,c7,_⟩:=h.cells;have f6:=h.w.frozen 6;have hgl:=h.w.lt;have hne:(Value.slice A P.length c).ownBlock≠some g:=eP h.r h.w (by decide);have H0:=ac h;have HX:=ac (ae X (ae hP (ae hf hb)));clear X hP hf hb h;go_enter Tryz.func19,Tryz.ntmps19;refine wp_scope_straight ?_;go_upto_region 1 with fail
  go_cut [2] (fun s wx=>s=.int .i64 (P.length:Int)∧Um g C (P++[⟨2,p,0,0⟩]) p k0 wx∧jQ g W wx)
  case first=>
    go_region_law (first
      | (refine gr rfl (.tmp 12) (.tmp 18) 25 rfl g 52 i0 _ 4 32 Tryz.underlying25 hi0 hz0 hz1 hz2 rfl (by decide) (.slice A P.length c) P.length (fm P) (by simp[Act.eval]) (H0.out.r.alloc _) (.slice (some ⟨W.heap.size,0,none⟩) 1 1) 1 (W.heap.size+1) (fm [⟨2,p,0,0⟩]) (by simp[Act.eval]) (Rd.drew (iK W (fm [⟨2,p,0,0⟩]) 52 4 1 rfl (by omega))) (rp _) (by unfold maxLen;omega) (by omega) (by simp;omega) ?_;intro v1 w1 hown1 hg1 hv1;obtain⟨gn,cn,rfl⟩:=gS hown1;have kk:=(H0.out.w.alloc (.cells #[.int .i64 2,.int .i64 (p:Int),.int .i64 0,.int .i64 0] 52)).drew.grown hg1 (fun e=>hne e.symm);have y0:=kk.cell 6;have y1:=kk.frozen 6;have H3:=ac (ae hown1 hg1);clear hown1 hg1 hv1 kk))
    all_goals (
      have hbA:Below W.heap.size W (W.alloc (.cells #[.int .i64 2,.int .i64 (p:Int),.int .i64 0,.int .i64 0] 52)).drew:=((ay _ W).alloc (au _) _).drew;have hq:=Ul.push (x:=⟨2,p,0,0⟩) (H0.out.next hbA) H3.out.1 H3.out.2;have H4:=ac (ae hq.1 ((jQ.of hbA (aM hgl)).trans hq.2));clear y0 y1 hq hbA H3 c6 c7 f6)
    all_goals go_wp2_with fail
    all_goals go_meet
    all_goals exact⟨rfl,⟨_,H4.out.1⟩,H4.out.2⟩
  case rest=>
    obtain⟨rfl,hU,hfu⟩:=hcut;have HU:=ac (ae hU hfu);clear hU hfu c6 c7 f6 hne;go_wp2_with fail;refine wp_label ?_;go_wp2_with fail;go_loopw [] (fun wr=>∃p' m cs,zz g C P P0 p k0 fin W p' m cs wr) (fun wr=>C.F.length-pAt g wr)
    case atStart=>exact⟨p,[],[],HU.out.1,HU.out.2,uE.nil _,by show P.length+1+0≤_;omega,au _,hp,HX.out.2.2.2,by rw[bB];exact HX.out.2.2.1,hk0⟩
    case round=>
      obtain⟨q0,m,cs,hI⟩:=hrel;obtain⟨L1,L2,L3⟩:=hI.len;have hlt0:=hI.lt;have hP:=HX.out.2.1;have cc:=hI.cmd HX.out.1 hP;obtain⟨m',hm'⟩:∃m',m'=m++C4 C.F (P.length+1+m.length) P.length q0:=⟨_,rfl⟩;obtain⟨k',hk'⟩:∃k',k'=k0+qV C (cs++[q0]):=⟨_,rfl⟩;have hgo:=fun q w'=>hI.go hP (q:=q) (w':=w')
      have hfin:=fun q w'=>hI.endd hP (q:=q) (w':=w')
      rw[←hm',←hk'] at cc hgo hfin;rw[←hm'] at L1;obtain⟨p',hp'⟩:∃p',p'=(eO C.F q0).p:=⟨_,rfl⟩;rw[←hp'] at cc hgo hfin L1 L2 L3;have c1:∀w2,Um g C (P++⟨2,p,0,0⟩::m') p' k' w2→jJ 38 #[.pointer (some ⟨g,0,none⟩)] w2 (.int .u8 ((sg C.F p').toNat:Int)):=fun w2 hu=>by
        obtain⟨lv,hu⟩:=hu;exact Be HX.out.1.hfF hu L3
      have c2:∀w2 q,q≤C.F.length→Um g C (P++⟨2,p,0,0⟩::m') q k' w2→Calls Tryz.prog 17 #[.pointer (some ⟨g,0,none⟩)] w2 fun e w'=>∃q',q≤q'∧q'≤C.F.length∧(∀i,q≤i→i<q'→sg C.F i=110)∧sg C.F q'≠110∧e=.returned (.bool (decide (q<q')))∧Um g C (P++⟨2,p,0,0⟩::m') q' k' w'∧jQ g w2 w':=fun w2 q hq hu=>td HX.out.1.hfF hu hq
      have c3:∀w2 w3 q,q≤C.F.length→Um g C (P++⟨2,p,0,0⟩::m') q k' w2→Below w2.heap.size w2 w3→jJ 18 #[C.nv,.int .i64 (q:Int)] w3 (.bool (eN C.F (gO q))):=fun w2 w3 q hq hu hb=>uI HX.out.1 hu hq w3 hb
      have hpt:pAt g wr=q0:=hI.u.pAt;obtain⟨z,hz⟩:∃z,z=sg C.F p':=⟨_,rfl⟩;rw[←hz] at c1;have HC:=ac (ae cc (ae c1 (ae c2 c3)));have HI:=ac (ae hgo (ae hfin (ae hz hpt)));have k59:((z.toNat:Int)==59)=(z==59):=iT z 59;have k38:((z.toNat:Int)==38)=(z==38):=iT z 38;have k110:((z.toNat:Int)==110)=(z==110):=iT z 110;clear cc c1 c2 c3 hgo hfin hI hk' hm' hp' hpt hP hz;have key:z=59∨z=38∨z=110∨(z≠59∧z≠38∧z≠110):=by
        by_cases h1:z=59
        ·exact .inl h1
        by_cases h2:z=38
        ·exact .inr (.inl h2)
        by_cases h3:z=110
        ·exact .inr (.inr (.inl h3))
        exact .inr (.inr (.inr ⟨h1,h2,h3⟩))
      rcases key with hk|hk|hk|⟨h1,h2,h3⟩
      case' inr.inr.inr=>
        rw[aN h1] at k59;rw[aN h2] at k38;rw[aN h3] at k110;have HS:=ac (fun l:List Nd=>LI (F:=C.F) (p:=p') (l:=l) (u:=(P.length:Int)) (by rw[←HI.out.2.2.1];exact h1) (by rw[←HI.out.2.2.1];exact h2) (by rw[←HI.out.2.2.1];exact h3));clear h1 h2 h3
        go_wp2_with (first
          | (go_at_call 38;with_reducible refine(HC.out.2.1 _ H1.out.1).mono ?_
             rintro e w3 ⟨rfl,hb3⟩;have hE:=HI.out.2.1 p' w3 HS.out (au _) L3 (H1.out.1.next hb3) (H1.out.2.trans (jQ.of hb3 (aM H1.out.1.choose_spec.w.lt)));have HE:=ac hE;clear hE hb3)
          | (go_at_call 40;with_reducible refine HC.out.1.mono ?_
             rintro e w2 ⟨rfl,hu,hf⟩;have H1:=ac (ae hu hf);clear hu hf)
          | fail)
        obtain⟨ga,ca,v0,e1,e2,e3,e4,hLE⟩:=HE.out.mem hF;obtain⟨nn,hnn⟩:∃nn,nn=P.length+1+m'.length:=⟨_,rfl⟩;rw[←hnn] at e1;have u1:(P.length:Int)<(nn:Int):=by omega
        have u2:(0:Int)≤(P.length:Int):=by omega
        have HT:=ac hLE;clear hLE hnn HE;go_region;all_goals go_wp2_with fail
        all_goals (try rw[aY])
        all_goals go_end0
        all_goals first|exact⟨rfl,_,_,_,HT.out⟩|exact⟨rfl,_,_,_,HT.out.drew⟩
      case' inl=>
        have t59:((z.toNat:Int)==59)=true:=by rw[k59,hk];rfl
        have hz:=HI.out.2.2.1;have hlt:p'+1≤C.F.length:=oV (by rw[←hz,hk];decide);have v7:IntKind.i64.wrap ((p':Int)+1)=(p':Int)+1:=aO _ (by omega);have HZ:=ac (show sg C.F p'=59∨sg C.F p'=38 by rw[←hz,hk];decide);clear hk hz k59 k38 k110
        go_wp2_with (first
          | (go_at_call 17;with_reducible refine(HC.out.2.2.1 _ (p'+1) hlt (Um.setP H3.out.1.1)).mono ?_
             rintro e w4 ⟨q,g1,g2,g3,g4,rfl,⟨lv4,hU4⟩,hf4⟩;obtain⟨c0,_,_,_,_,_,_,c7,_⟩:=hU4.cells;have H4:=ac (ae (show Um g C _ q k' w4 from ⟨lv4,hU4⟩) (ae ((H3.out.2.trans H3.out.1.2).trans hf4) (ae (fun l:List Nd=>xH (F:=C.F) (p:=p') (q:=q) (l:=l) (u:=(P.length:Int)) HZ.out g1 g2 g3 g4) (ae g1 g2))));clear hU4 hf4 g1 g2 g3 g4)
          | (go_at_call 38;with_reducible refine(HC.out.2.1 _ H1.out.1).mono ?_
             rintro e w3 ⟨rfl,hb3⟩;have hgl3:=H1.out.1.choose_spec.w.lt;obtain⟨lv3,hU3⟩:=H1.out.1.next hb3;have hs3:=hU3.setP (p'+1);rw[show ((p'+1:Nat):Int)=(p':Int)+1 by omega] at hs3;obtain⟨_,_,_,_,_,_,_,c7,_⟩:=hU3.cells;have fz7:=hU3.w.frozen 7;have H3:=ac (ae hs3 (H1.out.2.trans (jQ.of hb3 (aM hgl3))));clear hb3 hU3 hs3 hgl3)
          | (go_at_call 40;with_reducible refine HC.out.1.mono ?_
             rintro e w2 ⟨rfl,hu,hf⟩;have H1:=ac (ae hu hf);clear hu hf)
          | fail)
      case' inr.inl=>
        have t59:((z.toNat:Int)==59)=false:=by rw[k59,hk];rfl
        have t38:((z.toNat:Int)==38)=true:=by rw[k38,hk];rfl
        have hz:=HI.out.2.2.1;have hlt:p'+1≤C.F.length:=oV (by rw[←hz,hk];decide);have v7:IntKind.i64.wrap ((p':Int)+1)=(p':Int)+1:=aO _ (by omega);have HZ:=ac (show sg C.F p'=59∨sg C.F p'=38 by rw[←hz,hk];decide);clear hk hz k59 k38 k110
        go_wp2_with (first
          | (go_at_call 17;with_reducible refine(HC.out.2.2.1 _ (p'+1) hlt (Um.setP H3.out.1.1)).mono ?_
             rintro e w4 ⟨q,g1,g2,g3,g4,rfl,⟨lv4,hU4⟩,hf4⟩;obtain⟨c0,_,_,_,_,_,_,c7,_⟩:=hU4.cells;have H4:=ac (ae (show Um g C _ q k' w4 from ⟨lv4,hU4⟩) (ae ((H3.out.2.trans H3.out.1.2).trans hf4) (ae (fun l:List Nd=>xH (F:=C.F) (p:=p') (q:=q) (l:=l) (u:=(P.length:Int)) HZ.out g1 g2 g3 g4) (ae g1 g2))));clear hU4 hf4 g1 g2 g3 g4)
          | (go_at_call 38;with_reducible refine(HC.out.2.1 _ H1.out.1).mono ?_
             rintro e w3 ⟨rfl,hb3⟩;have hgl3:=H1.out.1.choose_spec.w.lt;obtain⟨lv3,hU3⟩:=H1.out.1.next hb3;have hs3:=hU3.setP (p'+1);rw[show ((p'+1:Nat):Int)=(p':Int)+1 by omega] at hs3;obtain⟨_,_,_,_,_,_,_,c7,_⟩:=hU3.cells;have fz7:=hU3.w.frozen 7;have H3:=ac (ae hs3 (H1.out.2.trans (jQ.of hb3 (aM hgl3))));clear hb3 hU3 hs3 hgl3)
          | (go_at_call 40;with_reducible refine HC.out.1.mono ?_
             rintro e w2 ⟨rfl,hu,hf⟩;have H1:=ac (ae hu hf);clear hu hf)
          | fail)
      case' inr.inr.inl=>
        have t59:((z.toNat:Int)==59)=false:=by rw[k59,hk];rfl
        have t38:((z.toNat:Int)==38)=false:=by rw[k38,hk];rfl
        have t110:((z.toNat:Int)==110)=true:=by rw[k110,hk];rfl
        have hz:=HI.out.2.2.1;have HZ:=ac (show sg C.F p'=110 by rw[←hz,hk]);clear hk hz k59 k38 k110
        go_wp2_with (first
          | (go_at_call 17;with_reducible refine(HC.out.2.2.1 _ p' L3 H3.out.1).mono ?_
             rintro e w4 ⟨q,g1,g2,g3,g4,rfl,⟨lv4,hU4⟩,hf4⟩;obtain⟨c0,_,_,_,_,_,_,c7,_⟩:=hU4.cells;have g5:p'+1≤q:=by
               rcases bC p' q with h|h
               ·exact h
               ·exact absurd (by rw[show q=p' by omega];exact HZ.out) g4
             have H4:=ac (ae (show Um g C _ q k' w4 from ⟨lv4,hU4⟩) (ae (H3.out.2.trans hf4) (ae (fun l:List Nd=>LJ (F:=C.F) (p:=p') (q:=q) (l:=l) (u:=(P.length:Int)) HZ.out g1 g2 g3 g4) (ae g5 g2))));clear hU4 hf4 g1 g2 g3 g4 g5)
          | (go_at_call 38;with_reducible refine(HC.out.2.1 _ H1.out.1).mono ?_
             rintro e w3 ⟨rfl,hb3⟩;have H3:=ac (ae (H1.out.1.next hb3) (H1.out.2.trans (jQ.of hb3 (aM H1.out.1.choose_spec.w.lt))));clear hb3)
          | (go_at_call 40;with_reducible refine HC.out.1.mono ?_
             rintro e w2 ⟨rfl,hu,hf⟩;have H1:=ac (ae hu hf);clear hu hf)
          | fail)
      all_goals (
        have c3:=HC.out.2.2.2 w4 w4.drew q H4.out.2.2.2.2 H4.out.1 (ay _ w4).drew;obtain⟨b,hb⟩:∃b,b=eN C.F (gO q):=⟨_,rfl⟩;rw[←hb] at c3;have H5:=ac (ae c3 hb);clear c3 hb
        go_region_held3 (fun w'=>w'.cell? ⟨g,0,none⟩=some C.nv∧w'.cell? ⟨g,7,none⟩=some (.int .i64 (q:Int)))
         (first|with_reducible exact⟨c0,c7⟩|exact⟨c0,c7⟩)
         (
          (go_at_call 18;with_reducible refine H5.out.1.mono ?_
           rintro e w5 ⟨rfl,hb5⟩;have H6:=ac ((ay _ w4).drew.trans hb5);have c0:=jc ((ay _ w4).drew.trans hb5) c0;have c7:=jc ((ay _ w4).drew.trans hb5) c7;clear hb5))
        have hU6:=H4.out.1.next H6.out;have hF6:=H4.out.2.1.trans (jQ.of H6.out (aM H4.out.1.choose_spec.w.lt));have HU6:=ac (ae hU6 hF6);clear hU6 hF6;clear H1 HZ;try clear v7 hlt)
      all_goals (
        cases b
        ·have hb:=H5.out.2;have HE:=ac (HI.out.2.1 q w5 (fun l=>by rw[hb];exact H4.out.2.2.1 l) (by have:=H4.out.2.2.2.1;omega) H4.out.2.2.2.2 HU6.out.1 HU6.out.2);clear c0 c7 hb;go_wp2_with fail;obtain⟨ga,ca,v0,e1,e2,e3,e4,hLE⟩:=HE.out.mem hF;obtain⟨nn,hnn⟩:∃nn,nn=P.length+1+m'.length:=⟨_,rfl⟩;rw[←hnn] at e1;have u1:(P.length:Int)<(nn:Int):=by omega
         have u2:(0:Int)≤(P.length:Int):=by omega
         have HT:=ac hLE;clear hLE hnn HE;go_region;all_goals go_wp2_with fail
         all_goals (try rw[aY])
         all_goals go_end0
         all_goals first|exact⟨rfl,_,_,_,HT.out⟩|exact⟨rfl,_,_,_,HT.out.drew⟩
        ·have hb:=H5.out.2;have hI:=HI.out.1 q w5 H4.out.2.2.1 H4.out.2.2.2.1 hb.symm HU6.out.1 HU6.out.2;have HE:=ac hI;clear c0 c7 hb hI;go_wp2_with fail;have hI:=HE.out;refine⟨⟨q,_,_,hI⟩,?_⟩;rw[HI.out.2.2.2,hI.u.pAt]
         have:=hI.lt
         have:=H4.out.2.2.2.1
         omega)
section
open Go.RowKit
attribute [local go_sem] Oper.semAt_some
theorem Eo (P:Program) (t:TypeId) (w:World):(Instr.makeMap t none).run P w=.ok (.map (some w.heap.size)) (w.alloc (.map #[] 0)):=rfl
def vE (F G:List Lf):Uc:=⟨.slice none 0 0,.slice none 0 0,F,(ei G).l,0,0,xq (ei G).l (jt (ei G).l (ei G).l.length),(F.length:Int)-(G.length:Int),mT G F,zE (G.drop (mT G F)) (F.drop (mT G F))⟩
def sf (F G:List Lf):Nat:=qV (vE F G) ((jt (ei F).l (ei F).l.length).map (nj (ei F).l))
theorem Ol {C:Uc} {G:List Lf} (h:Uk C G) (p:Nat):ly C p=ly (vE C.F G) p:=by
  unfold ly vE;simp only;rw[h.L,h.f,h.mo,h.hd,h.tl,h.hd]
theorem Ih {C:Uc} {G:List Lf} (h:Uk C G) {r:List Nd} {cs:List Nat} (hr:(ei C.F).l=⟨1,0,C.F.length, -1⟩::r) (hp:oU C.F 1 r cs):qV C cs=sf C.F G:=by
  unfold sf;rw[tw hp hr];unfold qV;congr 1;exact cw fun p _=>by rw[Ol h]
theorem Rd.len {w:World} {B sz n c:Nat} {A:Option Addr} {xs:List Value} (h:Rd w B sz (.slice A n c) n xs):n≤c∧c≤maxLen:=by
  obtain⟨_,A',c',e,e1,e2,_⟩:=h
  cases e;exact⟨e1,e2⟩
theorem Rd.drop {w:World} {B sz n c:Nat} {A:Option Addr} {xs:List Value} (h:Rd w B sz (.slice A n c) n xs) {k:Nat} (hk:k≤n):Rd w B sz (.slice (if c=k then A else A.map (fun x=>x.add (k*sz))) (n-k) (c-k)) (n-k) (xs.drop (k*sz)):=by
  obtain⟨h1,A',c',e,h2,h3,h4,h5⟩:=h
  cases e;refine⟨by rw[aZ,h1,Nat.sub_mul],_,_,rfl,by omega,by omega,fun hA=>?_,fun hn=>?_⟩
  ·by_cases hck:c=k
   ·omega
   ·rw[aC hck] at hA
    have:A=none:=by simpa using hA
    have:=h4 this
    omega
  ·obtain⟨g,o,rfl,hg,hc⟩:=h5 (by omega);rw[aC (by omega)];refine⟨g,o+k*sz,?_,hg,fun j u hj=>?_⟩
   ·show some ((⟨g,o,none⟩:Addr).add (k*sz))=_;unfold Addr.add;split<;>simp_all
   ·rw[bv] at hj
    have:=hc _ _ hj
    rwa [←Nat.add_assoc] at this
theorem rD:∀(k:Nat) (L:List Lf),gv (L.drop k)=(gv L).drop (k*4)
  | 0,L=>by simp
  | k+1,[]=>by simp[gv]
  | k+1,x::L=>by
    show gv (L.drop k)=(KZ x++gv L).drop ((k+1)*4);rw[rD k L,Nat.add_mul,Nat.one_mul,Nat.add_comm,←dN];rfl
structure qQ (w:World) (bl b g bm:Nat) (lv:Value) (n:Nat) (f:Int→Int) (cs:Array Value) (W:World):Prop where
  hb:Below w.heap.size w W
  bkl:Bk W bl 25 #[lv]
  imp:IM W b n f
  bg:Bk W g 46 cs
  bb:Bk W bm 43 #[.pointer (some ⟨g,0,none⟩)]
  hlt:w.heap.size≤bl∧bl<b∧b<g∧g<bm
section
variable {w W W':World} {bl b g bm n:Nat} {lv:Value} {f:Int→Int} {cs:Array Value}
theorem qQ.below (h:qQ w bl b g bm lv n f cs W) (hb:Below W.heap.size W W'):qQ w bl b g bm lv n f cs W':=
  ⟨h.hb.trans (hb.mono h.hb.size),h.bkl.below hb h.bkl.lt,h.imp.below hb,h.bg.below hb h.bg.lt,h.bb.below hb h.bb.lt,h.hlt⟩
theorem qQ.set (h:qQ w bl b g bm lv n f cs W) (i:Nat) (v:Value):qQ w bl b g bm lv n f (cs.setIfInBounds i v) (W.setCell ⟨g,i,none⟩ v):=
  have hl:=h.hlt
  ⟨h.hb.setCell (p:=⟨g,i,none⟩) (show w.heap.size≤g by omega) v,h.bkl.far (p:=⟨g,i,none⟩) (show bl≠g by omega) v,h.imp.kept (bX _ _ _ _ (show b≠g by omega)),h.bg.set i v,h.bb.far (p:=⟨g,i,none⟩) (show bm≠g by omega) v,h.hlt⟩
theorem qQ.put {n':Nat} {f':Int→Int} (h:qQ w bl b g bm lv n f cs W) (hg:W.grownBy W' (some b)) (hi:IM W' b n' f'):qQ w bl b g bm lv n' f' cs W':=
  have hl:=h.hlt
  ⟨dV h.hb hg h.hb.size (fun k hk=>by injection hk with hk;omega),h.bkl.grown hg (fun e=>by injection e with e;omega),hi,h.bg.grown hg (fun e=>by injection e with e;omega),h.bb.grown hg (fun e=>by injection e with e;omega),h.hlt⟩
theorem qQ.keep (h:qQ w bl b g bm lv n f cs W) (ho:W'.os=W.os) (ht:W'.tape=W.tape) (hu:W'.output=W.output) (hs:W.heap.size≤W'.heap.size) (hk:∀k,k≤bm→W'.heap[k]? = W.heap[k]?):qQ w bl b g bm lv n f cs W':=
  have hl:=h.hlt
  ⟨⟨ho.trans h.hb.1,ht.trans h.hb.2,hu.trans h.hb.3,aA h.hb.size hs,fun k hk2=>(hk k (by omega)).trans (h.hb.block k hk2)⟩,(hk bl (by omega)).trans h.bkl,h.imp.kept (hk b (by omega)),(hk g (by omega)).trans h.bg,(hk bm (au _)).trans h.bb,h.hlt⟩
theorem qQ.xg (h:qQ w bl b g bm lv n f cs W) {X:Nat→Prop} (hx:XG X W W') (hX:∀k,X k→bm<k):qQ w bl b g bm lv n f cs W':=
  h.keep hx.os hx.tape hx.output hx.size (fun k hk=>hx.block k (by have:=h.bb.lt;omega) (fun hh=>by have:=hX k hh;omega))
theorem qQ.grown (h:qQ w bl b g bm lv n f cs W) {row:Option Nat} (hg:W.grownBy W' row) (hr:∀k,row=some k→bm<k):qQ w bl b g bm lv n f cs W':=
  h.keep hg.1 hg.2 hg.3 hg.size (fun k hk=>hg.block k (by have:=h.bb.lt;omega) (fun e=>by have:=hr k e.symm;omega))
theorem qQ.ptr (h:qQ w bl b g bm lv n f cs W):W.cell? ⟨bm,0,none⟩=some (.pointer (some ⟨g,0,none⟩)):=by rw[h.bb.cell];rfl
theorem qQ.row (h:qQ w bl b g bm lv n f cs W):W.cell? ⟨bl,0,none⟩=some lv:=by rw[h.bkl.cell];rfl
end
theorem vB {P:Program} {w:World} {o:Oper} {a:Act} {K:Act→World→Prop} {Q:Exit→Act→World→Prop} (s x v:Operand) (t:TypeId)
    (ho:o.op=.mapUpdate t s x v) (sv xv vv:Value) (hs:a.eval s=sv) (hx:a.eval x=xv) (hv:a.eval v=vv) (w':World) (hrun:(Instr.mapUpdate t sv xv vv).run P w=.ok () w') (h:K (a.put o.dst undef) w'):Oper.wp P o a w K Q:=by
  unfold Oper.wp;simp[execOp,ho,hs,hx,hv,hrun,Result.andThen];exact h
theorem xN {α:Type} {P:Program} {n:Nat} {g:Operand} {ps:Array Tmp} {assign body:Code} {Q:Exit→Act→World→Prop} {a:Act} {w:World} (gfx:α→Act→Act)
    (h1:1≤n) {gf:Nat} {lb:Array Value} (hg:a.eval g=.func (.func gf) #[] lb) (eg:∀args w,(callFunc gf args).run P w=.ok (.enter gf args) w)
    {encs:α→Array Value} {Kp:World→World→Prop} {S Sp:List α→Prop} {N:List α} {w0:World} (hseq:Kw P gf lb encs Kp S Sp N w0)
    (hKt:∀{A B C:World},Kp A B→Kp B C→Kp A C) (hKb:∀(W:World) (l:Nat) (o o':Obj),w.heap.size≤l→W.heap[l]? = some o→o.isCells=false→o.isWalk=false→Kp W (W.putObj l o')) (hb0:Below w0.heap.size w0 w) (hps:∀x,(encs x).size=ps.size)
    (I:(Nat→Prop)→List α→World→Prop) (Ix:Code→(Nat→Prop)→List α→World→Prop) (hI:l8 I) (hIx:∀c,l8 (Ix c)) (hIo:∀X,OwnFrom w.heap.size (I X)) (hIxo:∀c X,OwnFrom w.heap.size (Ix c X)) (h0:I (fun _=>False) [] w)
    (hassign:∀(l:Nat) (X:Nat→Prop) (pre:List α) (x:α) (W:World) (K:Act→World→Prop),I X pre W→pre++[x]<+:N→(∀a' W',KeepsFrom w.heap.size W W'→Kp W W'→(∀k,X k→W'.heap[k]? = W.heap[k]?)→I X pre W'→a'=gfx x a→K a' W') →
      assign.wpIn (Fence.wide.inRound l) (n-1-1) P (Exit.then K (fun _ _ _=>False)) {tmps:=(ps.zip (encs x)).foldl (fun t (p,v)=>t.setIfInBounds p v) a.tmps,defers:=[]} W)
    (hbody:∀(l:Nat) (X:Nat→Prop) (pre:List α) (x:α) (W:World),w.heap.size≤l→(∃r,W.heap[l]? = some (.loop r))→I X pre W→pre++[x]<+:N→body.wpIn (Fence.wide.inRound l) (n-1-1) P (ES w.heap.size Kp X I Ix (pre++[x]) W) (gfx x a) W)
    (hdone:∀(D:Nat) (X:Nat→Prop) (xs:List α) (W:World),w.heap.size≤D→S xs→I X xs W→W.heap[D]? = some (.deferred (some []))→Q .normal {a with defers:={target:=.collected D,args:=#[]}::a.defers} W)
    (hstop:∀(D:Nat) (c:Code) (X:Nat→Prop) (pre:List α) (W:World),w.heap.size≤D→Sp pre→Ix c X pre W→W.heap[D]? = some (.deferred (some []))→c.wpIn Fence.wide n P Q {a with defers:={target:=.collected D,args:=#[]}::a.defers} W) :
    (Code.rangeFunc g ps assign body).wpIn Fence.wide n P Q a w:=
  sc h1 hg eg hseq hKt hKb hb0 hps I Ix hI hIx hIo hIxo h0 (fun x a' _=>a'=gfx x a) (fun x a'=>fun _ _ _ _ h _ _=>h) hassign (fun l X pre x a' W hl h1 h2 ha h3=>by subst ha;exact hbody l X pre x W hl h1 h2 h3) hdone hstop
theorem qQ.first {w W:World} {bl b g bm n:Nat} {lA nA2:Option Addr} {lcp nc:Nat} {F:List Lf} {L:List Nd} {mo:Int} {hd tl:Nat}
    (h:qQ w bl b g bm (.slice lA L.length lcp) n (xq L (jt L L.length)) #[.slice nA2 F.length nc,.slice lA L.length lcp,.int .i64 mo,.int .i64 (hd:Int),.int .i64 (tl:Int),.map (some b),.slice none 0 0,.int .i64 0,.int .i64 0] W)
    (hn:Rd w w.heap.size 4 (.slice nA2 F.length nc) F.length (gv F)) (hl:Rd w w.heap.size 4 (.slice lA L.length lcp) L.length (fm L)) (W1:World) (hW1:W1=(W.setCell ⟨g,6,none⟩ (.slice (some ⟨W.heap.size,0,none⟩) 1 1)).alloc (.cells #[.int .i64 1,.int .i64 0,.int .i64 (F.length:Int),.int .i64 (-1)] 52)) :
    Um g ⟨.slice nA2 F.length nc,.slice lA L.length lcp,F,L,b,n,xq L (jt L L.length),mo,hd,tl⟩ [⟨1,0,F.length, -1⟩] 0 0 W1∧Bk W1 bm 43 #[.pointer (some ⟨g,0,none⟩)]∧Below w.heap.size w W1∧∀D,D<W.heap.size→D≠g→W1.heap[D]? = W.heap[D]? := by
  have hlt:=h.hlt;have hgl:=h.bg.lt;have hs:(W.setCell ⟨g,6,none⟩ (.slice (some ⟨W.heap.size,0,none⟩) 1 1)).heap.size=W.heap.size:=by simp[World.setCell]
  have h1:=h.set 6 (.slice (some ⟨W.heap.size,0,none⟩) 1 1);have hbA:Below (W.setCell ⟨g,6,none⟩ (.slice (some ⟨W.heap.size,0,none⟩) 1 1)).heap.size (W.setCell ⟨g,6,none⟩ (.slice (some ⟨W.heap.size,0,none⟩) 1 1)) W1:=by rw[hW1];exact(ay _ _).alloc (au _) _
  have h2:=h1.below hbA;have hr:W1.ownsRow g 52 4 (.slice (some ⟨W.heap.size,0,none⟩) 1 1) 1 (fm [⟨1,0,F.length, -1⟩]):=by
    have hr:=World.ownsRow_lit (e:=52) (size:=4) (base:=g) (W.setCell ⟨g,6,none⟩ (.slice (some ⟨W.heap.size,0,none⟩) 1 1)) #[.int .i64 1,.int .i64 0,.int .i64 (F.length:Int),.int .i64 (-1)] 1 (by rw[hs];exact aM hgl) (by unfold maxLen;omega) rfl;rw[hs] at hr;rw[hW1];exact hr
  exact⟨⟨_,h2.bg,hr,(hn.keep h2.hb (au _)).mono (by omega),(hl.keep h2.hb (au _)).mono (by omega),h2.imp,hlt.2.2.1⟩,h2.bb,h2.hb,fun D hD hne=>(hbA.block D (by rw[hs];exact hD)).trans (bX _ _ _ D hne)⟩
theorem DD {g:Nat} {C:Uc} {r:List Nd} {p kp:Nat} {W:World} (hF:FB C.F) (h:Um g C r p kp W) (hp:p≤C.F.length) (hs:sg C.F p=110) :
    Calls Tryz.prog 17 #[.pointer (some ⟨g,0,none⟩)] W fun e w'=>e=.returned (.bool true)∧∃q:Nat,p<q∧q≤C.F.length∧(∀i,p≤i→i<q→sg C.F i=110)∧Um g C r q kp w'∧jQ g W w':=by
  refine(td hF h hp).mono ?_;rintro e w' ⟨q,h1,h2,h3,h4,rfl,h5,h6⟩;have h7:p<q:=Nat.lt_of_le_of_ne h1 (fun e=>h4 (by rw[←e];exact hs));exact⟨by rw[aG h7],q,h7,h2,h3,h5,h6⟩
theorem DF {g:Nat} {C:Uc} {r:List Nd} {p kp:Nat} {W:World} (hF:FB C.F) (h:Um g C r p kp W) (hp:p≤C.F.length) (hs:sg C.F p≠110) :
    Calls Tryz.prog 17 #[.pointer (some ⟨g,0,none⟩)] W fun e w'=>e=.returned (.bool false)∧Um g C r p kp w'∧jQ g W w':=by
  refine(td hF h hp).mono ?_;rintro e w' ⟨q,h1,h2,h3,h4,rfl,h5,h6⟩;have h7:¬p<q:=fun h=>hs (h3 p (au _) h)
  have h8:q=p:=by omega
  subst h8;exact⟨by rw[aE h7],h5,h6⟩
structure zh (g:Nat) (C:Uc) (W0:World) (bb:Bool) (r:List Nd) (p k:Nat) (cs:List Nat) (w:World):Prop where
  u:Um g C (⟨1,0,C.F.length, -1⟩::r) p k w
  f:jQ g W0 w
  s:AW C.F r p bb
  pr:oU C.F 1 r cs
  hk:k=qV C cs
  hp:p≤C.F.length
  hn:1+r.length≤16*p+1+(if bb=true then 4 else 0)
  hkn:k≤1+r.length
section
variable {g:Nat} {C:Uc} {G:List Lf} {W0:World} {bb:Bool} {r:List Nd} {p k:Nat} {cs:List Nat} {w w':World}
theorem zh.mv (h:zh g C W0 bb r p k cs w) (hu:Um g C (⟨1,0,C.F.length, -1⟩::r) p k w') (hf:jQ g w w'):zh g C W0 bb r p k cs w':=⟨hu,h.f.trans hf,h.s,h.pr,h.hk,h.hp,h.hn,h.hkn⟩
theorem zh.nls (h:zh g C W0 bb r p k cs w) {q:Nat} (hq:p<q) (hq2:q≤C.F.length) (hs:∀i,p≤i→i<q→sg C.F i=110) (hu:Um g C (⟨1,0,C.F.length, -1⟩::r) q k w') (hf:jQ g w w'):zh g C W0 bb r q k cs w':=by
  have h1:=Dz (q-p) p h.s (by omega) (fun i h1 h2=>hs i h1 (by omega));rw[show p+(q-p)=q by omega] at h1;exact⟨hu,h.f.trans hf,h1,h.pr,h.hk,hq2,by have:=h.hn;omega,h.hkn⟩
theorem zh.err (h:zh g C W0 bb r p k cs w) (hp:p<C.F.length) (hs:sg C.F p≠110) (hb:(!bb&&eN C.F (gO p))=false) (hu:Um g C (⟨1,0,C.F.length, -1⟩::r++[⟨17,p,p+1,0⟩]) (p+1) k w') (hf:jQ g W0 w'):zh g C W0 false (r++[⟨17,p,p+1,0⟩]) (p+1) k cs w':=by
  have hn:=h.hn;have h2:=h.pr.app (oU.err (1+r.length) p (p+1) [] [] (oU.nil _));rw[bB] at h2;refine⟨hu,hf,Lm h.s hp hs hb,h2,h.hk,hp,?_,by rw[aD];have:=h.hkn;omega⟩;rw[aD,bU];simp only[aH,bp];split at hn<;>omega
theorem zh.lst (X:Uk C G) (h:zh g C W0 false r p k cs w) (hp:p<C.F.length) (hs:sg C.F p≠110) (hb:eN C.F (gO p)=true) :
    Calls Tryz.prog 19 #[.pointer (some ⟨g,0,none⟩)] w fun e w'=>e=.returned (.tuple #[])∧∃r' q k' cs',p≤q∧zh g C W0 true r' q k' cs' w':=by
  have hn:=h.hn;simp only[aH,bp] at hn;refine(Ig (P0:=⟨1,0,0, -1⟩::r) X (by simp) h.u hp hb (by rw[aL];omega) (by rw[aL];have:=h.hkn;omega) rfl).mono ?_;rintro e w' ⟨rfl,q,m,ds,h1,h2,h3,h4,h5,h6,h7,h8⟩;refine⟨rfl,r++⟨2,p,q,0⟩::m,q,k+qV C ds,cs++ds,h5,?_⟩;have h9:=If (F:=C.F) (r:=r) (m:=m) (p:=p) (q:=q) h.s (aM hp) hs hb h1;rw[aL] at h4 h7 h8;have h10:=h.pr.app (oU.lst (1+r.length) p q m [] ds [] (by rw[Nat.add_comm 1];exact h4) (oU.nil _));rw[bB,bB] at h10;refine⟨h2,h.f.trans h3,h9,h10,by rw[Bp,h.hk],h6,?_,?_⟩
  ·rw[aD,aL,aB rfl];omega
  ·rw[aD,aL];omega
theorem zh.fin (h:zh g C W0 bb r p k cs w) (hp:¬p<C.F.length) (X:Uk C G):(ei C.F).l=⟨1,0,C.F.length, -1⟩::r∧k=sf C.F G:=by
  have hpe:p=C.F.length:=by have:=h.hp;omega
  have h1:=h.s;rw[hpe] at h1;have h2:=Ln h1;exact⟨h2,by rw[h.hk,Ih X h2 h.pr]⟩
end
theorem xh (F G:List Lf) (oA lA naP:Option Addr) (oc lcp nc:Nat) (w:World) (hF:FB F) (hG:FB G) (ho:Rd w w.heap.size 4 (.slice oA G.length oc) G.length (gv G)) (hl:Rd w w.heap.size 4 (.slice lA (ei G).l.length lcp) (ei G).l.length (fm (ei G).l)) (hn:Rd w w.heap.size 4 (.slice naP F.length nc) F.length (gv F)) :
    Calls Tryz.prog 6 #[.slice oA G.length oc,.slice lA (ei G).l.length lcp,.slice naP F.length nc] w fun e w'=>∃v,e=.returned (.tuple #[v,.int .i64 (sf F G:Int)])∧w'.ownsRow w.heap.size 52 4 v (ei F).l.length (fm (ei F).l)∧Below w.heap.size w w':=by
  obtain⟨i0,hi0,hz0,hz1,hz2⟩:=cL Tryz.infoNode;have hFn:=hF.n;have hGn:=hG.n;have hpl:=ow G;have w1:IntKind.i64.wrap ((F.length:Int)-(G.length:Int))=(F.length:Int)-(G.length:Int):=aO _ (by omega);have H0:=ac (ae hF (ae hG (ae ho (ae hl hn))));clear hF hG ho hl hn;refine(aX (n:=5)).1 ?_;refine callsIn_of_wp_marks Tryz.func6 rfl trivial ?_ rfl;simp only[Tryz.ntmps6,cJ,aL,cg,Nat.reduceAdd,Nat.reduceSub,cy,cz,cO,cH,cK,bH];refine(wpIn_wide (n:=5)).2 ?_;go_wp2;rw[Eo];go_upto_region 2 with fail
  obtain⟨b,hb⟩:∃b,b=w.heap.size+1:=⟨_,rfl⟩;obtain⟨g,hg⟩:∃g,g=w.heap.size+1+1:=⟨_,rfl⟩;obtain⟨bm,hbm⟩:∃bm,bm=w.heap.size+1+1+1:=⟨_,rfl⟩;obtain⟨bl,hbl⟩:∃bl,bl=w.heap.size:=⟨_,rfl⟩;rw[←hbm,←hg,←hb,←hbl];obtain⟨mo,hmo⟩:∃mo,mo=(F.length:Int)-(G.length:Int):=⟨_,rfl⟩;obtain⟨L,hL⟩:∃L,L=(ei G).l:=⟨_,rfl⟩;rw[←hmo,←hL];obtain⟨W0,hW0⟩:∃W0,W0=((((w.alloc (.cells #[.slice lA L.length lcp] 25)).alloc (.map #[] 0)).alloc (.cells #[.slice naP F.length nc,.slice lA L.length lcp,.int .i64 mo,.int .i64 0,.int .i64 0,.map (some b),.slice none 0 0,.int .i64 0,.int .i64 0] 46)).alloc (.cells #[.pointer (some ⟨g,0,none⟩)] 43)):=⟨_,rfl⟩;rw[←hW0];have hbw:Below w.heap.size w W0:=by rw[hW0];exact((((ay _ w).alloc (au _) _).alloc (by simp only[bc];omega) _).alloc (by simp only[bc];omega) _).alloc (by simp only[bc];omega) _
  have kl:Bk W0 bl 25 #[.slice lA L.length lcp]:=by rw[hW0,hbl];exact(((Bk.new w _ _).alloc _).alloc _).alloc _
  have hkm:IM W0 b 0 (fun _=>0):=by
    rw[hW0,hb];have h:=IM.made (w.alloc (.cells #[.slice lA L.length lcp] 25));rw[bc] at h
    exact(h.alloc _).alloc _
  have hkg:Bk W0 g 46 #[.slice naP F.length nc,.slice lA L.length lcp,.int .i64 mo,.int .i64 0,.int .i64 0,.map (some b),.slice none 0 0,.int .i64 0,.int .i64 0]:=by
    rw[hW0,hg];have h:=Bk.new ((w.alloc (.cells #[.slice lA L.length lcp] 25)).alloc (.map #[] 0)) 46 #[.slice naP F.length nc,.slice lA L.length lcp,.int .i64 mo,.int .i64 0,.int .i64 0,.map (some b),.slice none 0 0,.int .i64 0,.int .i64 0];simp only[bc] at h;exact h.alloc _
  have kb:Bk W0 bm 43 #[.pointer (some ⟨g,0,none⟩)]:=by
    rw[hW0,hbm];have h:=Bk.new (((w.alloc (.cells #[.slice lA L.length lcp] 25)).alloc (.map #[] 0)).alloc (.cells #[.slice naP F.length nc,.slice lA L.length lcp,.int .i64 mo,.int .i64 0,.int .i64 0,.map (some b),.slice none 0 0,.int .i64 0,.int .i64 0] 46)) 43 #[.pointer (some ⟨g,0,none⟩)];simp only[bc] at h;exact h
  have HI0:=ac (show qQ w bl b g bm (.slice lA L.length lcp) 0 (fun _=>0) _ W0 from ⟨hbw,kl,hkm,hkg,kb,by omega⟩);have c1:=fun W2 (hb2:Below w.heap.size w W2)=>Ii G F oA naP oc nc W2 hGn hFn ((H0.out.2.2.1.keep hb2 (au _)).mono hb2.size) ((H0.out.2.2.2.2.keep hb2 (au _)).mono hb2.size)
  obtain⟨hd,hhd⟩:∃hd,hd=mT G F:=⟨_,rfl⟩;rw[←hhd] at c1;have d0:=HI0.out.ptr;have d3:W0.cell? ⟨g,3,none⟩=some (.int .i64 0):=by rw[HI0.out.bg.cell];rfl
  have f3:W0.frozen? ⟨g,3,none⟩=false:=HI0.out.bg.frozen 3;have HC:=ac c1;have HN:=ac (ae hmo (ae hL hhd));clear hW0 hbw kl hkm hkg kb c1 hb hg hbm hbl hmo hL hhd
  go_region_held3 (fun w'=>w'.cell? ⟨bm,0,none⟩=some (.pointer (some ⟨g,0,none⟩)))
   (first|with_reducible exact d0|exact dz _|exact d0)
   (
    (go_at_call 13;with_reducible refine(HC.out _ (HI0.out.below (ay _ W0).drew).hb).mono ?_
     rintro e w2 ⟨rfl,hb2⟩;have H2:=ac (HI0.out.below ((ay _ W0).drew.trans hb2));have d0:=H2.out.ptr;have d3:w2.cell? ⟨g,3,none⟩=some (.int .i64 0):=by rw[H2.out.bg.cell];rfl
     have f3:w2.frozen? ⟨g,3,none⟩=false:=H2.out.bg.frozen 3;have dz:=fun v=>(H2.out.set 3 v).ptr
     clear hb2))
  have HI1:=ac (show qQ w bl b g bm (.slice lA L.length lcp) 0 (fun _=>0) #[.slice naP F.length nc,.slice lA L.length lcp,.int .i64 mo,.int .i64 (hd:Int),.int .i64 0,.map (some b),.slice none 0 0,.int .i64 0,.int .i64 0] _ from H2.out.set 3 (.int .i64 (hd:Int)));clear d0 d3 f3 dz;generalize w2.setCell {block:=g,off:=3} (Value.int IntKind.i64 (hd:Int))=W2 at *;have d0:=HI1.out.ptr;have d3:W2.cell? ⟨g,3,none⟩=some (.int .i64 (hd:Int)):=by rw[HI1.out.bg.cell];rfl
  have d4:W2.cell? ⟨g,4,none⟩=some (.int .i64 0):=by rw[HI1.out.bg.cell];rfl
  have f4:W2.frozen? ⟨g,4,none⟩=false:=HI1.out.bg.frozen 4;have hhd:hd≤G.length∧hd≤F.length:=by rw[HN.out.2.2];exact pC _ _
  have hoc:G.length≤oc∧oc≤maxLen:=H0.out.2.2.1.len;have hnc:F.length≤nc∧nc≤maxLen:=H0.out.2.2.2.2.len;obtain⟨h1,h2⟩:=hhd;obtain⟨h3,h4⟩:=hoc;obtain⟨h5,h6⟩:=hnc;have u1:(0:Int)≤(hd:Int):=by omega
  have u2:(hd:Int)≤(G.length:Int):=by omega
  have u3:(hd:Int)≤(F.length:Int):=by omega
  have c2:=fun W2 (hb2:Below w.heap.size w W2)=>Lw (G.drop hd) (F.drop hd) (if oc=hd then oA else oA.map (fun x=>x.add (hd*4))) (if nc=hd then naP else naP.map (fun x=>x.add (hd*4))) (oc-hd) (nc-hd) W2 (by rw[aZ];omega) (by rw[aZ];omega) (by rw[aZ,rD];exact(((H0.out.2.2.1.keep hb2 (au _)).mono hb2.size).drop h1)) (by rw[aZ,rD];exact(((H0.out.2.2.2.2.keep hb2 (au _)).mono hb2.size).drop h2))
  rw[aZ,aZ] at c2;obtain⟨oA2,he1⟩:∃x,(if oc=hd then oA else Option.map (fun x=>x.add (hd*4)) oA)=x:=⟨_,rfl⟩;obtain⟨naP2,he2⟩:∃x,(if nc=hd then naP else Option.map (fun x=>x.add (hd*4)) naP)=x:=⟨_,rfl⟩;rw[he1,he2] at c2;obtain⟨tl,htl⟩:∃tl,tl=zE (G.drop hd) (F.drop hd):=⟨_,rfl⟩;rw[←htl] at c2;have HC2:=ac (ae c2 htl);clear c2 htl;go_wp2_with fail
  go_region_held3 (fun w'=>w'.cell? ⟨bm,0,none⟩=some (.pointer (some ⟨g,0,none⟩))∧w'.cell? ⟨g,3,none⟩=some (.int .i64 (hd:Int)))
   (first|with_reducible exact⟨d0,d3⟩|exact⟨dz _,dx2 _⟩|exact⟨d0,d3⟩)
   (
    (go_at_call 14;with_reducible refine(HC2.out.1 _ (HI1.out.below (ay _ W2).drew).hb).mono ?_
     rintro e w3 ⟨rfl,hb2⟩;have H3:=ac (HI1.out.below ((ay _ W2).drew.trans hb2));have d0:=H3.out.ptr;have d3:w3.cell? ⟨g,3,none⟩=some (.int .i64 (hd:Int)):=by rw[H3.out.bg.cell];rfl
     have d4:w3.cell? ⟨g,4,none⟩=some (.int .i64 0):=by rw[H3.out.bg.cell];rfl
     have f4:w3.frozen? ⟨g,4,none⟩=false:=H3.out.bg.frozen 4;have dz:=fun v=>(H3.out.set 4 v).ptr
     have dx2:=fun v=>((H3.out.set 4 v).bg.cell 3).trans (rfl:_=some (Value.int .i64 (hd:Int)))
     clear hb2))
  have HI2:=ac (show qQ w bl b g bm (.slice lA L.length lcp) 0 (fun _=>0) #[.slice naP F.length nc,.slice lA L.length lcp,.int .i64 mo,.int .i64 (hd:Int),.int .i64 (tl:Int),.map (some b),.slice none 0 0,.int .i64 0,.int .i64 0] _ from H3.out.set 4 (.int .i64 (tl:Int)));clear d0 d3 d4 f4 dz dx2;generalize w3.setCell {block:=g,off:=4} (Value.int IntKind.i64 (tl:Int))=W3 at *;have d0:=HI2.out.ptr;have d1:=HI2.out.row;clear u1 u2 u3 h1 h2 h3 h4 h5 h6;have c3:∀W4,Below w.heap.size w W4→jJ 15 #[.slice lA L.length lcp,.int .i64 (G.length:Int)] W4 (.bool true):=fun W4 hb4=>by
    obtain⟨p1,r,p2⟩:=ri G;rw[←HN.out.2.1] at p1 p2;have hr:=(H0.out.2.2.2.1.keep hb4 (au _)).mono hb4.size;rw[←HN.out.2.1] at hr;rw[←HN.out.2.1] at hpl;exact Dk L lA lcp G.length W4 (by omega) hr p1 (by rw[p2];rfl)
  have hXa:∀g' o,lA=some ⟨g',o,none⟩→¬g'=b:=fun g' o e=>by
    have hr:=H0.out.2.2.2.1;obtain⟨p1,r,p2⟩:=ri G;obtain⟨_,A',c',e1,_,_,_,e2⟩:=hr
    cases e1;obtain⟨g2,o2,e3,e4,_⟩:=e2 (by rw[p2];simp);rw[e] at e3
    cases e3
    have:=HI0.out.hlt
    omega
  have c4:∀W4,Below w.heap.size w W4→bm<W4.heap.size→Calls Tryz.prog 16 #[.slice lA L.length lcp] W4 fun e w'=>∃gf lb,e=.returned (.func (.func gf) #[] lb)∧Lg gf lb (jt L L.length) (fun k=>k=b) w'∧Below W4.heap.size W4 w':=fun W4 hb4 hbm=>by
    have hr:=(H0.out.2.2.2.1.keep hb4 (au _)).mono hb4.size;rw[←HN.out.2.1] at hr hpl;exact DO L (by omega) lA lcp W4 (fun k=>k=b) hXa (by have:=HI0.out.hlt;omega) hr
  have HC4:=ac (ae c3 c4);clear c3 c4 hXa
  go_wp2_with (first
    | (go_at_call 16;with_reducible refine(HC4.out.2 _ H4.out.hb H4.out.bb.lt).mono ?_
       rintro e w5 ⟨gf,lb,rfl,hit,hb5⟩;have H5:=ac (ae hit (H4.out.below hb5));clear hit hb5)
    | (go_at_call 15;with_reducible refine(HC4.out.1 _ HI2.out.hb).mono ?_
       rintro e w4 ⟨rfl,hb4⟩;have H4:=ac (HI2.out.below hb4);have d1:=H4.out.row;clear hb4)
    | fail)
  have h5:=H5.out.2;obtain⟨cs,hcs⟩:∃cs:Array Value,cs=#[.slice naP F.length nc,.slice lA L.length lcp,.int .i64 mo,.int .i64 (hd:Int),.int .i64 (tl:Int),.map (some b),.slice none 0 0,.int .i64 0,.int .i64 0]:=⟨_,rfl⟩;rw[←hcs] at h5;have hw5:=h5.bb.lt;have HCS:=ac hcs;refine(wpIn_wide (n:=5)).1 ?_
  refine xN (encs:=J6) (fun (x:Nat) a=>{tmps:=(a.tmps.setIfInBounds 49 (.int .i64 (x:Int))).setIfInBounds 9 (.int .i64 (x:Int)),defers:=[]}) (by omega) (gf:=gf) (lb:=lb) rfl H5.out.1.1 (H5.out.1.2 w5 (ay _ _)) (fun h k=>h.trans k) (fun W l o o' hl h1 h2 h3=>rE W l o o' hl h1 h2 h3) (ay _ _) (fun _=>rfl)
    (fun X pre W=>∃n,n≤pre.length∧qQ w bl b g bm (.slice lA L.length lcp) n (xq L pre) cs W∧w5.heap.size≤W.heap.size∧∀k,X k→w5.heap.size≤k∧k<W.heap.size)
    (fun _ _ _ _=>False)
    (fun X pre A B ⟨n,h1,h2,h3,h4⟩ hx=>⟨n,h1,h2.xg hx (fun k hk=>by have:=h4 k hk;omega),aA h3 hx.size,fun k hk=>by
      have hs:=hx.size;rcases hk with hk|hk
      ·have:=h4 k hk;omega
      ·omega⟩) (fun _ _ _ _ _ h _=>h)
    (fun X pre W W' row ⟨n,h1,h2,h3,h4⟩ hg hr=>⟨n,h1,h2.grown hg (fun k hk=>by have:=(hr k hk).1;omega),aA h3 hg.size,fun k hk=>by have:=h4 k hk;have:=hg.size;omega⟩) (fun _ _ _ _ _ _ h _ _=>h)
    ⟨0,bq _,h5,au _,fun k hk=>hk.elim⟩
    ?assign ?body ?done (fun D c X pre W _ _ h _=>h.elim)
  case assign=>
    intro l' X pre x W K hI hpx hK;gi_wp2;have h:=hK _ _ (ig (ay _ _)) (fi.refl _ _ _) (fun k hk=>rfl) hI rfl;simp only[aa,ar,an] at h;exact h
  case body=>
    rintro l' X pre x W hl1 hl2 ⟨n,hn,hI,hsz,hX⟩ hpx;dsimp only;simp only[aa,ar,an];have hxl:x∈jt L L.length:=hpx.subset (List.mem_append_right _ (dw.2 rfl));have hxL:x<L.length:=cI.1 (List.mem_filter.1 hxl).1;obtain⟨y,hy⟩:∃y,L[x]? = some y:=⟨_,ax hxL⟩;have hrL:=(H0.out.2.2.2.1.keep hI.hb (au _));rw[←HN.out.2.1] at hrL hpl;obtain⟨g0,o0,rfl,hg0,hc⟩:=fW gu hrL hy rfl;obtain⟨yf,hyf⟩:∃z:Int,z=(y.fr:Int):=⟨_,rfl⟩;obtain⟨yt,hyt⟩:∃z:Int,z=(y.tt:Int):=⟨_,rfl⟩;have y1:W.cell? ⟨g0,o0+x*4+1,none⟩=some (.int .i64 yf):=by rw[hyf];exact hc 1 _ rfl
    have y2:W.cell? ⟨g0,o0+x*4+2,none⟩=some (.int .i64 yt):=by rw[hyt];exact hc 2 _ rfl
    have y0:=hI.row;have yp:=hI.ptr;have yq:W.cell? ⟨g,5,none⟩=some (.map (some b)):=by rw[hI.bg.cell,HCS.out];rfl
    have v1:(x:Int)<(L.length:Int):=by omega
    have v2:(0:Int)≤(x:Int):=by omega
    have htm:=DV L pre x;have hfr:nj L x=y.fr:=by unfold nj;rw[hy]
    have htt:wZ L x=y.tt:=by unfold wZ;rw[hy]
    rw[hfr,htt,←hyf] at htm;have hlen:pre.length+1≤L.length:=by
      have h1:=hpx.length_le;rw[aD,bU] at h1;exact aA h1 (yQ (ju L) L.length)
    have hyb:=pW G x y (by rw[←HN.out.2.1];exact hy);by_cases hlt:y.fr<y.tt
    ·have t1:decide (yf<yt)=true:=aG (by omega);rw[aB hlt] at htm;have HX:=ac (ae hI (ae htm (ae hX hsz)));have hl9:=hI.hlt;have hbs:=hI.hb.size;have htc0:∀(a:Addr) (v:Value),a.block≠b→W.cell? a=some v→W.drew.cell? a=some v:=fun _ _ _ h=>h
     obtain⟨w7,hr7,hm7,hg7⟩:=(hI.imp.drew.drew).put yf (x:Int) (by omega) (by omega) (by omega) (by omega) (by omega);have hP2:=hI.put (W':=w7) (⟨hg7.1,hg7.2,hg7.3,hg7.size,hg7.block⟩:W.grownBy w7 (some b)) hm7;have HP:=ac (ae hr7 (ae hP2 (show W.grownBy w7 (some b) from ⟨hg7.1,hg7.2,hg7.3,hg7.size,hg7.block⟩)));have HX2:=ac hn;have hmix:Tryz.prog.follows .mixedOrders=true:=by kernel_rfl
     clear hI htm hX hpx hxl hy hrL hc hyf hyt hfr htt hl1 hl2 hn hsz hr7 hm7 hg7 hP2 htc0;gi_wp2_with fail;obtain⟨S0,hS0⟩:∃S0:World→Prop,S0=fun w'=>w'=W.drew:=⟨_,rfl⟩
     refine gm (S:=S0) hmix (by decide +kernel) (by rintro ⟨a,w,h⟩;exact h) ?_;show wpAnyH _ _ _ _ _ _ _ _ W.drew;have hS1:S0 W.drew:=by rw[hS0]
     have tc:∀w',S0 w'→∀(a:Addr) (v:Value),a.block≠b→W.cell? a=some v→w'.cell? a=some v:=fun w' h a v _ hc=>by rw[hS0] at h;rw[h];exact hc
     refine tk 0 (.slice (some ⟨g0,o0,none⟩) L.length lcp) hS1 (fun w' hS=>?_) ?_
     ·have c9:=tc w' hS _ _ (show bl≠b by omega) y0;go_simp
     try simp only[Act.put,am,ai,aj,aa,an,ar]
     refine tk 1 (.int .i64 (x:Int)) hS1 (fun w' hS=>?_) ?_
     ·go_simp
     try simp only[Act.put,am,ai,aj,aa,an,ar]
     refine tk 2 (.pointer (some ⟨g0,o0+x*4,none⟩)) hS1 (fun w' hS=>?_) ?_
     ·go_simp
     try simp only[Act.put,am,ai,aj,aa,an,ar]
     refine tk 3 (.pointer (some ⟨g0,o0+x*4+1,none⟩)) hS1 (fun w' hS=>?_) ?_
     ·go_simp
     try simp only[Act.put,am,ai,aj,aa,an,ar]
     refine tk 4 (.int .i64 yf) hS1 (fun w' hS=>?_) ?_
     ·have c9:=tc w' hS _ _ (show g0≠b by omega) y1;go_simp
     try simp only[Act.put,am,ai,aj,aa,an,ar]
     refine tk 5 (.slice (some ⟨g0,o0,none⟩) L.length lcp) hS1 (fun w' hS=>?_) ?_
     ·have c9:=tc w' hS _ _ (show bl≠b by omega) y0;go_simp
     try simp only[Act.put,am,ai,aj,aa,an,ar]
     refine tk 6 (.int .i64 (x:Int)) hS1 (fun w' hS=>?_) ?_
     ·go_simp
     try simp only[Act.put,am,ai,aj,aa,an,ar]
     refine tk 7 (.pointer (some ⟨g0,o0+x*4,none⟩)) hS1 (fun w' hS=>?_) ?_
     ·go_simp
     try simp only[Act.put,am,ai,aj,aa,an,ar]
     refine tk 8 (.pointer (some ⟨g0,o0+x*4+2,none⟩)) hS1 (fun w' hS=>?_) ?_
     ·go_simp
     try simp only[Act.put,am,ai,aj,aa,an,ar]
     refine tk 9 (.int .i64 yt) hS1 (fun w' hS=>?_) ?_
     ·have c9:=tc w' hS _ _ (show g0≠b by omega) y2;go_simp
     try simp only[Act.put,am,ai,aj,aa,an,ar]
     refine tk 10 (.bool true) hS1 (fun w' hS=>?_) ?_
     ·go_simp
     try simp only[Act.put,am,ai,aj,aa,an,ar]
     refine wpAnyH_done (by decide +kernel) ?_ _;clear hS1 tc hS0 S0;gi_wp2_with fail;obtain⟨S0,hS0⟩:∃S0:World→Prop,S0=fun w'=>w'=W.drew.drew∨w'=w7:=⟨_,rfl⟩
     refine gm (S:=S0) hmix (by decide +kernel) (by rintro ⟨a,w,h⟩;exact h) ?_;show wpAnyH _ _ _ _ _ _ _ _ W.drew.drew;have hS1:S0 W.drew.drew:=by rw[hS0];exact .inl rfl
     have hS2:S0 w7:=by rw[hS0];exact .inr rfl
     have tc:∀w',S0 w'→∀(a:Addr) (v:Value),a.block≠b→W.cell? a=some v→w'.cell? a=some v:=fun w' h a v hb9 hc=>by
       rw[hS0] at h;rcases h with h|h
       ·rw[h];exact hc
       ·rw[h];unfold World.cell?;rw[HP.out.2.2.block a.block (jS hc) (fun e=>hb9 (by injection e))];exact hc
     refine tk 0 (.pointer (some ⟨g,0,none⟩)) hS1 (fun w' hS=>?_) ?_
     ·have c9:=tc w' hS _ _ (show bm≠b by omega) yp;go_simp
     try simp only[Act.put,am,ai,aj,aa,an,ar]
     refine tk 1 (.pointer (some ⟨g,0,none⟩)) hS1 (fun w' hS=>?_) ?_
     ·go_simp
     try simp only[Act.put,am,ai,aj,aa,an,ar]
     refine tk 2 (.pointer (some ⟨g,5,none⟩)) hS1 (fun w' hS=>?_) ?_
     ·go_simp
     try simp only[Act.put,am,ai,aj,aa,an,ar]
     refine tk 3 (.map (some b)) hS1 (fun w' hS=>?_) ?_
     ·have c9:=tc w' hS _ _ (show g≠b by omega) yq;go_simp
     try simp only[Act.put,am,ai,aj,aa,an,ar]
     refine tk 4 (.slice (some ⟨g0,o0,none⟩) L.length lcp) hS1 (fun w' hS=>?_) ?_
     ·have c9:=tc w' hS _ _ (show bl≠b by omega) y0;go_simp
     try simp only[Act.put,am,ai,aj,aa,an,ar]
     refine tk 5 (.int .i64 (x:Int)) hS1 (fun w' hS=>?_) ?_
     ·go_simp
     try simp only[Act.put,am,ai,aj,aa,an,ar]
     refine tk 6 (.pointer (some ⟨g0,o0+x*4,none⟩)) hS1 (fun w' hS=>?_) ?_
     ·go_simp
     try simp only[Act.put,am,ai,aj,aa,an,ar]
     refine tk 7 (.pointer (some ⟨g0,o0+x*4+1,none⟩)) hS1 (fun w' hS=>?_) ?_
     ·go_simp
     try simp only[Act.put,am,ai,aj,aa,an,ar]
     refine tk 8 (.int .i64 yf) hS1 (fun w' hS=>?_) ?_
     ·have c9:=tc w' hS _ _ (show g0≠b by omega) y1;go_simp
     try simp only[Act.put,am,ai,aj,aa,an,ar]
     refine tk 9 (.int .i64 (x:Int)) hS1 (fun w' hS=>?_) ?_
     ·go_simp
     try simp only[Act.put,am,ai,aj,aa,an,ar]
     refine wpAnyH_all (rs:=[10]) (by decide +kernel) (by simp) (eR rfl (by rfl) (fun K hK=>?_) (fj (S:=S0)));refine vB (.tmp 64) (.tmp 69) (.tmp 70) 44 rfl (.map (some b)) (.int .i64 yf) (.int .i64 (x:Int)) rfl rfl rfl w7 HP.out.1 ?_;refine hK _ _ hS2 ?_;try simp only[Act.put,am,ai,aj,aa,an,ar]
     refine wpAnyH_done (by decide +kernel) ?_ _;gi_wp2_with fail;obtain⟨_,hp,hg⟩:=HP.out;obtain⟨_,htm,hX,hsz⟩:=HX.out;have hwb:b<w5.heap.size:=by omega
     exact⟨⟨hg.size,fun k o hM ho hc=>(hg.block k (aJ.1 ho).1 (fun e=>by injection e with e;omega)).trans ho⟩,⟨hg.size,fun k hk hx=>hg.block k (by omega) (fun e=>hx (by injection e))⟩,fun k hk=>hg.block k (hX k hk).2 (fun e=>by have:=(hX k hk).1;injection e with e;omega),n+1,by rw[aD,bU];have:=HX2.out;omega,by rw[htm];exact hp,by have:=hg.size;omega,fun k hk=>by have:=hX k hk;have:=hg.size;omega⟩
    ·have t1:decide (yf<yt)=false:=aE (by omega);rw[aC hlt] at htm;have hl9:=hI.hlt;have hbs:=hI.hb.size;have HX:=ac (ae hI (ae htm (ae hX (ae hsz hn))));have hmix:Tryz.prog.follows .mixedOrders=true:=by kernel_rfl
     clear hI htm hX hpx hxl hy hrL hc hyf hyt hfr htt hl1 hl2 hsz hn;gi_wp2_with fail;obtain⟨S0,hS0⟩:∃S0:World→Prop,S0=fun w'=>w'=W.drew:=⟨_,rfl⟩
     refine gm (S:=S0) hmix (by decide +kernel) (by rintro ⟨a,w,h⟩;exact h) ?_;show wpAnyH _ _ _ _ _ _ _ _ W.drew;have hS1:S0 W.drew:=by rw[hS0]
     have tc:∀w',S0 w'→∀(a:Addr) (v:Value),a.block≠b→W.cell? a=some v→w'.cell? a=some v:=fun w' h a v _ hc=>by rw[hS0] at h;rw[h];exact hc
     refine tk 0 (.slice (some ⟨g0,o0,none⟩) L.length lcp) hS1 (fun w' hS=>?_) ?_
     ·have c9:=tc w' hS _ _ (show bl≠b by omega) y0;go_simp
     try simp only[Act.put,am,ai,aj,aa,an,ar]
     refine tk 1 (.int .i64 (x:Int)) hS1 (fun w' hS=>?_) ?_
     ·go_simp
     try simp only[Act.put,am,ai,aj,aa,an,ar]
     refine tk 2 (.pointer (some ⟨g0,o0+x*4,none⟩)) hS1 (fun w' hS=>?_) ?_
     ·go_simp
     try simp only[Act.put,am,ai,aj,aa,an,ar]
     refine tk 3 (.pointer (some ⟨g0,o0+x*4+1,none⟩)) hS1 (fun w' hS=>?_) ?_
     ·go_simp
     try simp only[Act.put,am,ai,aj,aa,an,ar]
     refine tk 4 (.int .i64 yf) hS1 (fun w' hS=>?_) ?_
     ·have c9:=tc w' hS _ _ (show g0≠b by omega) y1;go_simp
     try simp only[Act.put,am,ai,aj,aa,an,ar]
     refine tk 5 (.slice (some ⟨g0,o0,none⟩) L.length lcp) hS1 (fun w' hS=>?_) ?_
     ·have c9:=tc w' hS _ _ (show bl≠b by omega) y0;go_simp
     try simp only[Act.put,am,ai,aj,aa,an,ar]
     refine tk 6 (.int .i64 (x:Int)) hS1 (fun w' hS=>?_) ?_
     ·go_simp
     try simp only[Act.put,am,ai,aj,aa,an,ar]
     refine tk 7 (.pointer (some ⟨g0,o0+x*4,none⟩)) hS1 (fun w' hS=>?_) ?_
     ·go_simp
     try simp only[Act.put,am,ai,aj,aa,an,ar]
     refine tk 8 (.pointer (some ⟨g0,o0+x*4+2,none⟩)) hS1 (fun w' hS=>?_) ?_
     ·go_simp
     try simp only[Act.put,am,ai,aj,aa,an,ar]
     refine tk 9 (.int .i64 yt) hS1 (fun w' hS=>?_) ?_
     ·have c9:=tc w' hS _ _ (show g0≠b by omega) y2;go_simp
     try simp only[Act.put,am,ai,aj,aa,an,ar]
     refine tk 10 (.bool false) hS1 (fun w' hS=>?_) ?_
     ·go_simp
     try simp only[Act.put,am,ai,aj,aa,an,ar]
     refine wpAnyH_done (by decide +kernel) ?_ _;gi_wp2_with fail;obtain⟨hI,htm,hX,hsz,hn⟩:=HX.out;exact⟨ig (ay _ W).drew,fi.of_below (ay _ W).drew hsz,fun k hk=>rfl,n,by rw[aD,bU];omega,by rw[htm];exact hI.below (ay _ W).drew,hsz,hX⟩
  case done=>
    rintro D X ys W hD hys ⟨n,hn,hI,hsz,hX⟩ hK;rw[hys] at hI;dsimp only;have d0:=hI.ptr;have d6:W.cell? ⟨g,6,none⟩=some (.slice none 0 0):=by rw[hI.bg.cell,HCS.out];rfl
    have f6:=hI.bg.frozen 6;have hgl:=hI.bg.lt;have hl9:=hI.hlt;have hDl:=(aJ.1 hK).1;rw[HCS.out] at hI;have hrl:=H0.out.2.2.2.1;rw[←HN.out.2.1] at hrl;obtain⟨W1,hW1⟩:∃W1,W1=(W.setCell ⟨g,6,none⟩ (.slice (some ⟨W.heap.size,0,none⟩) 1 1)).alloc (.cells #[.int .i64 1,.int .i64 0,.int .i64 (F.length:Int),.int .i64 (-1)] 52):=⟨_,rfl⟩;obtain⟨e1,e2,e3,e4⟩:=hI.first H0.out.2.2.2.2 hrl W1 hW1;obtain⟨C,hC⟩:∃C:Uc,C=⟨.slice naP F.length nc,.slice lA L.length lcp,F,L,b,n,xq L (jt L L.length),mo,hd,tl⟩:=⟨_,rfl⟩;rw[←hC] at e1;have hCF:C.F=F:=by rw[hC]
    have hX:Uk C G:=⟨by rw[hC];exact H0.out.1,H0.out.2.1,by rw[hC];exact HN.out.2.1,by rw[hC,←HN.out.2.1],by rw[hC];exact HN.out.1,by rw[hC];exact HN.out.2.2,by rw[hC];exact HC2.out.2⟩;have hK1:W1.heap[D]? = some (.deferred (some [])):=(e4 D hDl (by omega)).trans hK;have hL0:zh g C W1 false [] 0 0 [] W1:=⟨by rw[hCF];exact e1,jQ.refl _ _,Dx _,oU.nil _,rfl,bq _,by simp,by simp⟩;have HL:=ac (ae hL0 (ae hX (ae hCF (ae hK1 (ae e2 (ae e3 hC))))));have hbmk:∀W',jQ g W1 W'→W'.cell? ⟨bm,0,none⟩=some (.pointer (some ⟨g,0,none⟩)):=fun W' h=>by rw[(e2.kt h.kt (by decide)).cell];rfl
    have HBM:=ac hbmk;have HBK:=ac (fun W' (h:jQ g W1 W')=>e2.kt h.kt (by decide));have HI6:=ac hl9;have hfn:C.F.length≤900:=by rw[hCF];exact hFn
    clear hI hK hX hsz hn hys hL0 hK1 e1 e2 e3 e4 hrl hC hbmk;have HW1:=ac hW1;clear hW1;go_wp2_with fail;rw[←HW1.out];clear HW1 d6 f6 hgl d0;go_loopw [10] (fun s10 wr=>∃(bb:Bool) (r:List Nd) (p k:Nat) (cs:List Nat),s10=.bool bb∧zh g C W1 bb r p k cs wr) (fun s10 wr=>2*(F.length-pAt g wr)+(match s10 with | .bool true=>0|_=>1))
    case atStart=>exact⟨false,[],0,0,[],rfl,HL.out.1⟩
    case round=>
      obtain⟨bb,r,p,k,cs,rfl,hU⟩:=hrel;have d0:=HBM.out wr hU.f;obtain⟨lv,hul⟩:=hU.u;obtain⟨_,_,_,_,_,_,c6,c7,c8⟩:=hul.cells;have hpt:pAt g wr=p:=hU.u.pAt;by_cases hlt:p<F.length
      ·have t0:(p:Int)<(F.length:Int):=by omega
       have hltC:p<C.F.length:=by rw[hCF];exact hlt
       by_cases hs:sg C.F p=110
       ·have cl:=DD HL.out.2.1.hfF hU.u hU.hp hs;have HU:=ac (ae cl (ae hU hpt));clear cl hU hpt hul hs;go_wp2_with (
          (go_at_call 17;with_reducible refine HU.out.1.mono ?_
           rintro e w2 ⟨rfl,q,h1,h2,h3,h4,h5⟩;have H2:=ac (ae h1 (HU.out.2.1.nls h1 h2 h3 h4 h5));clear h1 h2 h3 h4 h5))
        refine⟨⟨bb,r,q,k,cs,rfl,H2.out.2⟩,?_⟩;rw[H2.out.2.u.pAt,HU.out.2.2]
        have:=H2.out.1
        exact Nat.add_lt_add_right (by omega) _
       ·have cl:=DF HL.out.2.1.hfF hU.u hU.hp hs;have cb:∀w2,Um g C (⟨1,0,C.F.length, -1⟩::r) p k w2→jJ 18 #[.slice naP F.length nc,.int .i64 (p:Int)] w2 (.bool (eN C.F (gO p))):=fun w2 hu=>by
          have h:=uI HL.out.2.1 hu hU.hp w2 (ay _ _)
          rwa [show C.nv=.slice naP F.length nc by rw[HL.out.2.2.2.2.2.2]] at h
        obtain⟨pb,hpb⟩:∃pb,pb=eN C.F (gO p):=⟨_,rfl⟩;rw[←hpb] at cb;have HU:=ac (ae cl (ae cb (ae hU (ae hpt (ae hs hpb)))));have hp9:=hU.hp;clear cl cb hU hpt hul hs hpb
        cases bb
        case' false=>
          cases pb
          case' true=>
            have c_l:=fun w3 (h:zh g C W1 false r p k cs w3)=>h.lst HL.out.2.1 hltC HU.out.2.2.2.2.1 HU.out.2.2.2.2.2.symm
            have HCL:=ac c_l;clear c_l
            go_wp2_with (first
              | (go_at_call 19;with_reducible refine(HCL.out _ H3.out).mono ?_
                 rintro e w4 ⟨rfl,r',q,k',cs',h1,h2⟩;have H4:=ac (ae h1 h2);clear h1 h2)
              | (go_at_call 18;with_reducible refine(HU.out.2.1 _ H2.out.u).mono ?_
                 rintro e w3 ⟨rfl,hb3⟩;have h3:=H2.out.mv (H2.out.u.next hb3) (jQ.of hb3 (aM H2.out.u.choose_spec.w.lt));have d0:=HBM.out w3 h3.f;have H3:=ac h3;clear hb3 h3)
              | (go_at_call 17;with_reducible refine HU.out.1.mono ?_
                 rintro e w2 ⟨rfl,h1,h2⟩;have h3:=HU.out.2.2.1.mv h1 h2;have d0:=HBM.out w2 h3.f;obtain⟨lv2,hu2⟩:=h1;obtain⟨_,_,_,_,_,_,c6,c7,_⟩:=hu2.cells;have H2:=ac h3;clear h2 h3 hu2)
              | fail)
            refine⟨⟨true,r',q,k',cs',rfl,H4.out.2⟩,?_⟩;rw[H4.out.2.u.pAt,HU.out.2.2.2.1]
            have:=H4.out.1
            show 2*(F.length-q)+0<2*(F.length-p)+1;omega
          case' false=>
            go_wp2_with (first
              | (go_at_call 18;with_reducible refine(HU.out.2.1 _ H2.out.u).mono ?_
                 rintro e w3 ⟨rfl,hb3⟩;have h3:=H2.out.mv (H2.out.u.next hb3) (jQ.of hb3 (aM H2.out.u.choose_spec.w.lt));have d0:=HBM.out w3 h3.f;have H3:=ac h3;clear hb3 h3)
              | (go_at_call 17;with_reducible refine HU.out.1.mono ?_
                 rintro e w2 ⟨rfl,h1,h2⟩;have h3:=HU.out.2.2.1.mv h1 h2;have d0:=HBM.out w2 h3.f;obtain⟨lv2,hu2⟩:=h1;obtain⟨_,_,_,_,_,_,c6,c7,_⟩:=hu2.cells;have H2:=ac h3;clear h2 h3 hu2)
              | fail)
            clear H2 c6 c7
        case' true=>
          go_wp2_with (
            (go_at_call 17;with_reducible refine HU.out.1.mono ?_
             rintro e w3 ⟨rfl,h1,h2⟩;have h3:=HU.out.2.2.1.mv h1 h2;have d0:=HBM.out w3 h3.f;have H3:=ac h3;clear h1 h2 h3))
          clear c6 c7 c8
        all_goals (
          obtain⟨lv3,hu3⟩:=H3.out.u;have hr3:=H3.out.hn;have hgl3:=hu3.w.lt;obtain⟨A3,n3,c3,rfl⟩:=eA hu3.r;obtain rfl:=ff hu3.r;obtain⟨_,_,_,_,_,_,c6,c7,_⟩:=hu3.cells;have f6:=hu3.w.frozen 6;have d0:=HBM.out w3 H3.out.f;have hne3:(Value.slice A3 (⟨1,0,C.F.length, -1⟩::r:List Nd).length c3).ownBlock≠some g:=eP hu3.r hu3.w (by decide);have hrl:(⟨1,0,C.F.length, -1⟩::r:List Nd).length=1+r.length:=by rw[aL];omega
          obtain⟨P3,hP3⟩:∃P3,P3=(⟨1,0,C.F.length, -1⟩::r:List Nd):=⟨_,rfl⟩;rw[←hP3] at hu3 hne3 hrl c6;have hq3:P3.length≤20000:=by rw[hrl];split at hr3<;>omega
          have v3:IntKind.i64.wrap ((p:Int)+1)=(p:Int)+1:=aO _ (by omega);have hkb3:=HBK.out w3 H3.out.f;have HP3:=ac (ae hu3 (ae hP3 (ae hne3 hkb3)));clear hu3 hr3 hrl hP3 hne3 hkb3;have hbg:bm≠g:=by have:=HI6.out;omega
          obtain⟨S0,hS0⟩:∃S0:World→Prop,S0=fun w'=>w'.cell? ⟨bm,0,none⟩=some (.pointer (some ⟨g,0,none⟩))∧w'.cell? ⟨g,7,none⟩=some (.int .i64 (p:Int)):=⟨_,rfl⟩
          have hmix:Tryz.prog.follows .mixedOrders=true:=by kernel_rfl
          refine wp_region_noPanic (wp_region_held (S:=S0) hmix ?_);show wpAnyH _ _ _ _ _ _ _ _ w3.drew;have hS1:S0 w3.drew:=by rw[hS0];exact⟨d0,c7⟩
          have hSA:S0 (w3.drew.alloc (.cells #[.int .i64 17,.int .i64 (p:Int),.int .i64 ((p:Int)+1),.int .i64 0] 52)):=by rw[hS0];exact⟨iy d0,iy c7⟩
          have tb:∀w',S0 w'→w'.cell? ⟨bm,0,none⟩=some (.pointer (some ⟨g,0,none⟩)):=fun w' h=>by rw[hS0] at h;exact h.1
          have tp:∀w',S0 w'→w'.cell? ⟨g,7,none⟩=some (.int .i64 (p:Int)):=fun w' h=>by rw[hS0] at h;exact h.2
          have c6b:=iy (o:=.cells #[.int .i64 17,.int .i64 (p:Int),.int .i64 ((p:Int)+1),.int .i64 0] 52) (show w3.drew.cell? ⟨g,6,none⟩=some (.slice A3 P3.length c3) from c6);refine tk 0 (.pointer (some ⟨g,0,none⟩)) hS1 (fun w' hS=>?_) ?_
          ·have c9:=tb w' hS;go_simp
          try simp only[Act.put,am,ai,aj,aa,an,ar]
          refine tk 1 (.pointer (some ⟨g,0,none⟩)) hS1 (fun w' hS=>?_) ?_
          ·have c9:=tb w' hS;go_simp
          try simp only[Act.put,am,ai,aj,aa,an,ar]
          refine tk 2 (.pointer (some ⟨g,0,none⟩)) hS1 (fun w' hS=>?_) ?_
          ·go_simp
          try simp only[Act.put,am,ai,aj,aa,an,ar]
          refine tk 3 (.pointer (some ⟨g,6,none⟩)) hS1 (fun w' hS=>?_) ?_
          ·go_simp
          try simp only[Act.put,am,ai,aj,aa,an,ar]
          refine tk 5 (.pointer (some ⟨g,0,none⟩)) hS1 (fun w' hS=>?_) ?_
          ·have c9:=tb w' hS;go_simp
          try simp only[Act.put,am,ai,aj,aa,an,ar]
          refine tk 6 (.pointer (some ⟨g,0,none⟩)) hS1 (fun w' hS=>?_) ?_
          ·go_simp
          try simp only[Act.put,am,ai,aj,aa,an,ar]
          refine tk 7 (.pointer (some ⟨g,7,none⟩)) hS1 (fun w' hS=>?_) ?_
          ·go_simp
          try simp only[Act.put,am,ai,aj,aa,an,ar]
          refine tk 8 (.int .i64 (p:Int)) hS1 (fun w' hS=>?_) ?_
          ·have c9:=tp w' hS;go_simp
          try simp only[Act.put,am,ai,aj,aa,an,ar]
          refine tk 9 (.pointer (some ⟨g,0,none⟩)) hS1 (fun w' hS=>?_) ?_
          ·have c9:=tb w' hS;go_simp
          try simp only[Act.put,am,ai,aj,aa,an,ar]
          refine tk 10 (.pointer (some ⟨g,0,none⟩)) hS1 (fun w' hS=>?_) ?_
          ·go_simp
          try simp only[Act.put,am,ai,aj,aa,an,ar]
          refine tk 11 (.pointer (some ⟨g,7,none⟩)) hS1 (fun w' hS=>?_) ?_
          ·go_simp
          try simp only[Act.put,am,ai,aj,aa,an,ar]
          refine tk 12 (.int .i64 (p:Int)) hS1 (fun w' hS=>?_) ?_
          ·have c9:=tp w' hS;go_simp
          try simp only[Act.put,am,ai,aj,aa,an,ar]
          refine tk 13 (.int .i64 ((p:Int)+1)) hS1 (fun w' hS=>?_) ?_
          ·go_simp
          try simp only[Act.put,am,ai,aj,aa,an,ar]
          refine tk 14 (.agg #[.int .i64 17,.int .i64 (p:Int),.int .i64 ((p:Int)+1),.int .i64 0]) hS1 (fun w' hS=>?_) ?_
          ·go_simp
          try simp only[Act.put,am,ai,aj,aa,an,ar]
          refine wpAnyH_all (rs:=[4,15]) (by decide +kernel) (by simp) (eR rfl (by rfl) (fun K2 hK2=>?_) (eR rfl (by rfl) (fun K2 hK2=>?_) (fj (S:=S0))))
          ·go_simp;refine hK2 _ _ hS1 ?_;clear hK2 K2;try simp only[Act.put,am,ai,aj,aa,an,ar]
           refine wpAnyH_all (rs:=[15]) (by decide +kernel) (by simp) (eR rfl (by rfl) (fun K2 hK2=>?_) (fj (S:=S0)));go_simp;refine hK2 _ _ hSA ?_;clear hK2 K2;try simp only[Act.put,am,ai,aj,aa,an,ar]
           refine wpAnyH_all (rs:=[16]) (by decide +kernel) (by simp) (eR rfl (by rfl) (fun K2 hK2=>?_) (fj (S:=S0)));refine iF (.tmp 89) (.tmp 100) 25 rfl g 52 i0 _ 4 32 Tryz.underlying25 hi0 hz0 hz1 hz2 rfl (by decide) (.slice A3 P3.length c3) P3.length (fm P3) rfl (HP3.out.1.r.alloc _) (.slice (some ⟨w3.heap.size,0,none⟩) 1 1) 1 (w3.heap.size+1) (fm [⟨17,p,p+1,0⟩]) rfl (Rd.drew (iK w3 (fm [⟨17,p,p+1,0⟩]) 52 4 1 rfl (by omega))) (rp _) (by unfold maxLen;omega) (by omega) (by simp;omega) ?_;intro v1 w1 hown1 hg1 hv1;obtain⟨gn,cn,rfl⟩:=gS hown1;have kk:=(HP3.out.1.w.alloc (.cells #[.int .i64 17,.int .i64 (p:Int),.int .i64 ((p:Int)+1),.int .i64 0] 52)).drew.grown hg1 (fun e=>HP3.out.2.2.1 e.symm);have y0:=kk.cell 6;have y1:=kk.frozen 6;have hkb:=(HP3.out.2.2.2.alloc (.cells #[.int .i64 17,.int .i64 (p:Int),.int .i64 ((p:Int)+1),.int .i64 0] 52)).drew.grown hg1 (fun e=>eP HP3.out.1.r HP3.out.2.2.2 (by decide) e.symm);have hSB:S0 w1:=by rw[hS0];exact⟨by rw[hkb.cell];rfl,by rw[kk.cell];rfl⟩
           have H9:=ac (ae hown1 (ae hg1 (ae kk hkb)));clear hown1 hg1 hv1 kk hkb;refine hK2 _ _ hSB ?_;clear hK2 K2;try simp only[Act.put,am,ai,aj,aa,an,ar]
           refine tk 17 (.pointer (some ⟨g,0,none⟩)) hSB (fun w' hS=>?_) ?_
           ·go_simp
           try simp only[Act.put,am,ai,aj,aa,an,ar]
           refine tk 18 (.pointer (some ⟨g,6,none⟩)) hSB (fun w' hS=>?_) ?_
           ·go_simp
           try simp only[Act.put,am,ai,aj,aa,an,ar]
           have hSC:S0 (w1.setCell ⟨g,6,none⟩ (.slice (some ⟨gn,0,none⟩) (P3.length+1) cn)):=by
             rw[hS0];have h1:=H9.out.2.2.2.far (p:=⟨g,6,none⟩) hbg (.slice (some ⟨gn,0,none⟩) (P3.length+1) cn);have h2:=H9.out.2.2.1.set 6 (.slice (some ⟨gn,0,none⟩) (P3.length+1) cn);exact⟨by rw[h1.cell];rfl,by rw[h2.cell];rfl⟩
           refine wpAnyH_all (rs:=[19]) (by decide +kernel) (by simp) (eR rfl (by rfl) (fun K2 hK2=>?_) (fj (S:=S0)));go_simp;refine hK2 _ _ hSC ?_;clear hK2 K2;try simp only[Act.put,am,ai,aj,aa,an,ar]
           refine wpAnyH_done (by decide +kernel) ?_ _;refine NoPanic.normal ?_;have hbA:Below w3.heap.size w3 (w3.drew.alloc (.cells #[.int .i64 17,.int .i64 (p:Int),.int .i64 ((p:Int)+1),.int .i64 0] 52)):=(ay _ w3).drew.alloc (au _) _;have hq:=Ul.push (x:=⟨17,p,p+1,0⟩) (HP3.out.1.next hbA) H9.out.1 H9.out.2.1;have hf5:=H3.out.f.trans ((jQ.of hbA (aM hgl3)).trans hq.2);have H10:=ac (ae hq.1 hf5);clear hq hf5 hbA hSC hSB hSA hS1 tb tp c6b y0 y1 d0 c6 c7 f6 H9 hS0 S0;generalize w1.setCell {block:=g,off:=6} (Value.slice (some {block:=gn,off:=0}) (P3.length+1) cn)=w5 at *;have hs5:=H10.out.1.setP (p+1);rw[show ((p+1:Nat):Int)=(p:Int)+1 by omega] at hs5;obtain⟨_,_,_,_,_,_,_,c7,_⟩:=H10.out.1.cells;have f7:=H10.out.1.w.frozen 7;have d0:=HBM.out w5 H10.out.2;have H11:=ac hs5;clear hs5;go_wp2_with fail;have hz:=H11.out;rw[HP3.out.2.1] at hz;have hu9:Um g C (⟨1,0,C.F.length, -1⟩::r++[⟨17,p,p+1,0⟩]) (p+1) k _:=⟨_,hz.1⟩;refine⟨⟨false,r++[⟨17,p,p+1,0⟩],p+1,k,cs,rfl,H3.out.err hltC HU.out.2.2.2.2.1 (by first|rfl|(rw[←HU.out.2.2.2.2.2];rfl)) hu9 (H10.out.2.trans hz.2)⟩,?_⟩;rw[hu9.pAt,HU.out.2.2.2.1];show 2*(F.length-(p+1))+1<2*(F.length-p)+_;omega
          ·go_simp;refine hK2 _ _ hSA ?_;clear hK2 K2;try simp only[Act.put,am,ai,aj,aa,an,ar]
           refine wpAnyH_all (rs:=[4]) (by decide +kernel) (by simp) (eR rfl (by rfl) (fun K2 hK2=>?_) (fj (S:=S0)));go_simp;refine hK2 _ _ hSA ?_;clear hK2 K2;try simp only[Act.put,am,ai,aj,aa,an,ar]
           refine wpAnyH_all (rs:=[16]) (by decide +kernel) (by simp) (eR rfl (by rfl) (fun K2 hK2=>?_) (fj (S:=S0)));refine iF (.tmp 89) (.tmp 100) 25 rfl g 52 i0 _ 4 32 Tryz.underlying25 hi0 hz0 hz1 hz2 rfl (by decide) (.slice A3 P3.length c3) P3.length (fm P3) rfl (HP3.out.1.r.alloc _) (.slice (some ⟨w3.heap.size,0,none⟩) 1 1) 1 (w3.heap.size+1) (fm [⟨17,p,p+1,0⟩]) rfl (Rd.drew (iK w3 (fm [⟨17,p,p+1,0⟩]) 52 4 1 rfl (by omega))) (rp _) (by unfold maxLen;omega) (by omega) (by simp;omega) ?_;intro v1 w1 hown1 hg1 hv1;obtain⟨gn,cn,rfl⟩:=gS hown1;have kk:=(HP3.out.1.w.alloc (.cells #[.int .i64 17,.int .i64 (p:Int),.int .i64 ((p:Int)+1),.int .i64 0] 52)).drew.grown hg1 (fun e=>HP3.out.2.2.1 e.symm);have y0:=kk.cell 6;have y1:=kk.frozen 6;have hkb:=(HP3.out.2.2.2.alloc (.cells #[.int .i64 17,.int .i64 (p:Int),.int .i64 ((p:Int)+1),.int .i64 0] 52)).drew.grown hg1 (fun e=>eP HP3.out.1.r HP3.out.2.2.2 (by decide) e.symm);have hSB:S0 w1:=by rw[hS0];exact⟨by rw[hkb.cell];rfl,by rw[kk.cell];rfl⟩
           have H9:=ac (ae hown1 (ae hg1 (ae kk hkb)));clear hown1 hg1 hv1 kk hkb;refine hK2 _ _ hSB ?_;clear hK2 K2;try simp only[Act.put,am,ai,aj,aa,an,ar]
           refine tk 17 (.pointer (some ⟨g,0,none⟩)) hSB (fun w' hS=>?_) ?_
           ·go_simp
           try simp only[Act.put,am,ai,aj,aa,an,ar]
           refine tk 18 (.pointer (some ⟨g,6,none⟩)) hSB (fun w' hS=>?_) ?_
           ·go_simp
           try simp only[Act.put,am,ai,aj,aa,an,ar]
           have hSC:S0 (w1.setCell ⟨g,6,none⟩ (.slice (some ⟨gn,0,none⟩) (P3.length+1) cn)):=by
             rw[hS0];have h1:=H9.out.2.2.2.far (p:=⟨g,6,none⟩) hbg (.slice (some ⟨gn,0,none⟩) (P3.length+1) cn);have h2:=H9.out.2.2.1.set 6 (.slice (some ⟨gn,0,none⟩) (P3.length+1) cn);exact⟨by rw[h1.cell];rfl,by rw[h2.cell];rfl⟩
           refine wpAnyH_all (rs:=[19]) (by decide +kernel) (by simp) (eR rfl (by rfl) (fun K2 hK2=>?_) (fj (S:=S0)));go_simp;refine hK2 _ _ hSC ?_;clear hK2 K2;try simp only[Act.put,am,ai,aj,aa,an,ar]
           refine wpAnyH_done (by decide +kernel) ?_ _;refine NoPanic.normal ?_;have hbA:Below w3.heap.size w3 (w3.drew.alloc (.cells #[.int .i64 17,.int .i64 (p:Int),.int .i64 ((p:Int)+1),.int .i64 0] 52)):=(ay _ w3).drew.alloc (au _) _;have hq:=Ul.push (x:=⟨17,p,p+1,0⟩) (HP3.out.1.next hbA) H9.out.1 H9.out.2.1;have hf5:=H3.out.f.trans ((jQ.of hbA (aM hgl3)).trans hq.2);have H10:=ac (ae hq.1 hf5);clear hq hf5 hbA hSC hSB hSA hS1 tb tp c6b y0 y1 d0 c6 c7 f6 H9 hS0 S0;generalize w1.setCell {block:=g,off:=6} (Value.slice (some {block:=gn,off:=0}) (P3.length+1) cn)=w5 at *;have hs5:=H10.out.1.setP (p+1);rw[show ((p+1:Nat):Int)=(p:Int)+1 by omega] at hs5;obtain⟨_,_,_,_,_,_,_,c7,_⟩:=H10.out.1.cells;have f7:=H10.out.1.w.frozen 7;have d0:=HBM.out w5 H10.out.2;have H11:=ac hs5;clear hs5;go_wp2_with fail;have hz:=H11.out;rw[HP3.out.2.1] at hz;have hu9:Um g C (⟨1,0,C.F.length, -1⟩::r++[⟨17,p,p+1,0⟩]) (p+1) k _:=⟨_,hz.1⟩;refine⟨⟨false,r++[⟨17,p,p+1,0⟩],p+1,k,cs,rfl,H3.out.err hltC HU.out.2.2.2.2.1 (by first|rfl|(rw[←HU.out.2.2.2.2.2];rfl)) hu9 (H10.out.2.trans hz.2)⟩,?_⟩;rw[hu9.pAt,HU.out.2.2.2.1];show 2*(F.length-(p+1))+1<2*(F.length-p)+_;omega)
      ·obtain⟨h1,h2⟩:=hU.fin (by rw[hCF];exact hlt) HL.out.2.1;have t0:decide (p<F.length)=false:=aE hlt;have t1:¬(p:Int)<(F.length:Int):=by omega
       have hwD:=HL.out.2.2.2.1;have hKr:wr.heap[D]? = some (.deferred (some [])):=hU.f.kt D _ hwD (fun cs t fr e=>by cases e);have hw5b:=H5.out.2.hb.size;have hbw:Below w.heap.size w wr:=HL.out.2.2.2.2.2.1.trans (hU.f.hb.mono (by have:=HI6.out;omega));have hr9:=hul.r;rw[hCF] at h1 h2;rw[hCF,←h1] at hr9;have hr9:=iW (B':=w.heap.size) hr9 (by have:=HI6.out;omega);have HE:=ac (ae hKr (ae hbw (ae hr9 h2)));clear h1 h2 hwD hKr hbw hr9 hpt hul hU hw5b;go_wp2_with fail;go_quiet (fail);go_wp2_with fail;have hw5b:=H5.out.2.hb.size;have hbk:=belowK_b (w:=w) (au _) (wr.drewN nq) D (.deferred (some [])) (.deferred none) (by omega) HE.out.1 rfl rfl;refine⟨by simp,.inl ⟨_,_,rfl,run_takeDeferred (w:=wr.drewN nq) HE.out.1,?_⟩⟩;refine⟨.tuple #[lv,.int .i64 (k:Int)],by simp[results,Tryz.results6,go_sem],lv,by rw[HE.out.2.2.2],?_,(dX HE.out.2.1 nq).trans hbk⟩;exact World.ownsRow.kept (w:=wr.drewN nq) HE.out.2.2.1 (grownBy_putObj' (wr.drewN nq) D (.deferred none)) (.inr (fun e=>by have:=gJ HE.out.2.2.1 e HE.out.1;cases this))
end
end Go.Proofs.YtmclohkaiemnaaaGreatDoor
