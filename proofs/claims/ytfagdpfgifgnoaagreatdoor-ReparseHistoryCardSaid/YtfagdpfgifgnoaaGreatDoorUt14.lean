/- Reparse: list: the walk. -/
import Derived.Test.YtfagdpfgifgnoaaGreatDoorOl14
import Derived.Test.YtfagdpfgifgnoaaGreatDoorUm14
import Derived.Test.YtfagdpfgifgnoaaGreatDoorRfz
import Derived.Deep.DeepCutAuto
import Derived.Deep.CutBlock
namespace Go.Proofs.YtfagdpfgifgnoaaGreatDoor
open Go.RowKit
set_option linter.unusedVariables false
set_option linter.unusedSimpArgs false
set_option maxRecDepth 100000
theorem LsE.mem {g:Nat} {C:Uc} {P P0:List Nd} {p0 k0:Nat} {fin:Ps} {W:World} {q:Nat} {m:List Nd} {cs:List Nat} {w:World} (h:LsE g C P P0 p0 k0 fin W q m cs 0 w) (hn:C.F.length≤900) :
    ∃ga ca v,w.cell? ⟨g,6,none⟩=some (.slice (some ⟨ga,0,none⟩) (P.length+1+m.length) ca)∧w.cell? ⟨g,7,none⟩=some (.int .i64 (q:Int))∧w.frozen? ⟨ga,P.length*4+2,none⟩=false∧w.cell? ⟨ga,P.length*4+2,none⟩=some v∧LsE g C P P0 p0 k0 fin W q m cs q (w.setCell ⟨ga,P.length*4+2,none⟩ (.int .i64 (q:Int))):=by
  obtain⟨h1,⟨lv,hU⟩,h3,h4,h5,h6,h7,h8⟩:=h;have hl:(P++⟨2,p0,0,0⟩::m:List Nd).length=P.length+1+m.length:=by rw[List.length_append,List.length_cons];omega
  have hr:=hU.r;obtain⟨ga,ca,rfl⟩:∃ga ca,lv=.slice (some ⟨ga,0,none⟩) (P.length+1+m.length) ca:=by
    rw[hl,show P.length+1+m.length=(P.length+m.length)+1 by omega] at hr;obtain⟨ga,ca,e⟩:=fK hr;exact⟨ga,ca,by rw[e];congr 1;omega⟩
  have ht:=hU.setTo P.length q (by rw[hl];omega);rw[iq] at ht;obtain⟨v0,hv0⟩:∃v0,(dt (P++⟨2,p0,0,0⟩::m))[P.length*4+2]? = some v0:=⟨_,List.getElem?_eq_getElem (by rw[yB,hl];omega)⟩;rw[←hl] at hr;exact⟨ga,ca,v0,hU.cells.2.2.2.2.2.2.1,hU.cells.2.2.2.2.2.2.2.1,cQ hr _,aJ hr _ _ hv0,h1,⟨_,ht.1⟩,h3.trans ht.2,h4,h5,h6,h7,h8⟩
theorem LsE.drew {g:Nat} {C:Uc} {P P0:List Nd} {p0 k0:Nat} {fin:Ps} {W:World} {q t:Nat} {m:List Nd} {cs:List Nat} {w:World} (h:LsE g C P P0 p0 k0 fin W q m cs t w):LsE g C P P0 p0 k0 fin W q m cs t w.drew:=by
  obtain⟨h1,h2,h3,h4,h5⟩:=h;exact⟨h1,h2.next (Below.refl _ _).drew,⟨h3.hb.drew,h3.kt.drew⟩,h4,h5⟩
set_option maxHeartbeats 8000000 in
theorem ulist_m {g:Nat} {C:Uc} {G:List Lf} {P P0:List Nd} {p k0:Nat} {fin:Ps} {W:World} (X:Uk C G) (hP:P0.length=P.length) (h:Um g C P p k0 W) (hp:p<C.F.length) (hb:bH C.F (eI p)=true) (hr:P.length≤16*p+1) (hk0:k0≤P.length) (hf:EE C.F P.length (P0++[⟨2,p,0,0⟩]) p fin) :
    Calls Tryz.prog 31 #[.pointer (some ⟨g,0,none⟩)] W fun e w'=>e=.returned (.tuple #[])∧∃q m cs,LsE g C P P0 p k0 fin W q m cs q w':=by
  obtain⟨i0,hi0,hz0,hz1,hz2⟩:=info_parts Tryz.infoNode;have hF:=X.hfF.n;obtain⟨lv,h⟩:=h;obtain⟨A,n,c,rfl⟩:=az h.r;obtain rfl:=bN h.r;obtain⟨_,_,_,_,_,_,c6,c7,_⟩:=h.cells;have f6:=h.w.frozen 6;have hgl:=h.w.lt;have hne:(Value.slice A P.length c).ownBlock≠some g:=aL h.r h.w (by decide);have H0:=Lib.hid h;have HX:=Lib.hid (And.intro X (And.intro hP (And.intro hf hb)));clear X hP hf hb h;go_enter Tryz.func31,Tryz.ntmps31;refine wp_scope_straight ?_;go_upto_region 1 with fail
  go_cut [2] (fun s wx=>s=.int .i64 (P.length:Int)∧Um g C (P++[⟨2,p,0,0⟩]) p k0 wx∧FuM g W wx)
  case first=>
    go_region_law (first
      | (refine cS rfl (.tmp 12) (.tmp 18) 25 rfl g 49 i0 _ 4 32 Tryz.underlying25 hi0 hz0 hz1 hz2 rfl (by decide) (.slice A P.length c) P.length (dt P) (by simp[Act.eval]) (H0.out.r.alloc _) (.slice (some ⟨W.heap.size,0,none⟩) 1 1) 1 (W.heap.size+1) (dt [⟨2,p,0,0⟩]) (by simp[Act.eval]) (Rd.drew (eM W (dt [⟨2,p,0,0⟩]) 49 4 1 rfl (by omega))) (DO _) (by unfold maxLen;omega) (by omega) (by simp;omega) ?_;intro v1 w1 hown1 hg1 hv1;obtain⟨gn,cn,rfl⟩:=fK hown1;have kk:=(H0.out.w.alloc (.cells #[.int .i64 2,.int .i64 (p:Int),.int .i64 0,.int .i64 0] 49)).drew.grown hg1 (fun e=>hne e.symm);have y0:=kk.cell 6;have y1:=kk.frozen 6;have H3:=Lib.hid (And.intro hown1 hg1);clear hown1 hg1 hv1 kk))
    all_goals (
      have hbA:Below W.heap.size W (W.alloc (.cells #[.int .i64 2,.int .i64 (p:Int),.int .i64 0,.int .i64 0] 49)).drew:=((Below.refl _ W).alloc (Nat.le_refl _) _).drew;have hq:=Ul.push (x:=⟨2,p,0,0⟩) (H0.out.next hbA) H3.out.1 H3.out.2;have H4:=Lib.hid (And.intro hq.1 ((FuM.of hbA (Nat.le_of_lt hgl)).trans hq.2));clear y0 y1 hq hbA H3 c6 c7 f6)
    all_goals go_wp2_with fail
    all_goals go_meet
    all_goals exact⟨rfl,⟨_,H4.out.1⟩,H4.out.2⟩
  case rest=>
    obtain⟨rfl,hU,hfu⟩:=hcut;have HU:=Lib.hid (And.intro hU hfu);clear hU hfu c6 c7 f6 hne;go_wp2_with fail;refine wp_label ?_;go_wp2_with fail;go_loopw [] (fun wr=>∃p' m cs,LsI g C P P0 p k0 fin W p' m cs wr) (fun wr=>C.F.length-pAt g wr)
    case atStart=>exact⟨p,[],[],HU.out.1,HU.out.2,sL.nil _,by show P.length+1+0≤_;omega,Nat.le_refl _,hp,HX.out.2.2.2,by rw[List.append_nil];exact HX.out.2.2.1,hk0⟩
    case round=>
      obtain⟨q0,m,cs,hI⟩:=hrel;obtain⟨L1,L2,L3⟩:=hI.len;have hlt0:=hI.lt;have hP:=HX.out.2.1;have cc:=hI.cmd HX.out.1 hP;obtain⟨m',hm'⟩:∃m',m'=m++hgT C.F (P.length+1+m.length) P.length q0:=⟨_,rfl⟩;obtain⟨k',hk'⟩:∃k',k'=k0+tkN C (cs++[q0]):=⟨_,rfl⟩;have hgo:=fun q w'=>hI.go hP (q:=q) (w':=w')
      have hfin:=fun q w'=>hI.endd hP (q:=q) (w':=w')
      rw[←hm',←hk'] at cc hgo hfin;rw[←hm'] at L1;obtain⟨p',hp'⟩:∃p',p'=(cK C.F q0).p:=⟨_,rfl⟩;rw[←hp'] at cc hgo hfin L1 L2 L3;have c1:∀w2,Um g C (P++⟨2,p,0,0⟩::m') p' k' w2→Calls Tryz.prog 52 #[.pointer (some ⟨g,0,none⟩)] w2 fun e w'=>e=.returned (.int .u8 ((sg C.F p').toNat:Int))∧Below w2.heap.size w2 w':=fun w2 hu=>by
        obtain⟨lv,hu⟩:=hu;exact usign_m HX.out.1.hfF hu L3
      have c2:∀w2 q,q≤C.F.length→Um g C (P++⟨2,p,0,0⟩::m') q k' w2→Calls Tryz.prog 29 #[.pointer (some ⟨g,0,none⟩)] w2 fun e w'=>∃q',q≤q'∧q'≤C.F.length∧(∀i,q≤i→i<q'→sg C.F i=110)∧sg C.F q'≠110∧e=.returned (.bool (decide (q<q')))∧Um g C (P++⟨2,p,0,0⟩::m') q' k' w'∧FuM g w2 w':=fun w2 q hq hu=>ulines_m HX.out.1.hfF hu hq
      have c3:∀w2 w3 q,q≤C.F.length→Um g C (P++⟨2,p,0,0⟩::m') q k' w2→Below w2.heap.size w2 w3→Calls Tryz.prog 30 #[C.nv,.int .i64 (q:Int)] w3 fun e w'=>e=.returned (.bool (bH C.F (eI q)))∧Below w3.heap.size w3 w':=fun w2 w3 q hq hu hb=>ubegins_m HX.out.1 hu hq w3 hb
      have hpt:pAt g wr=q0:=hI.u.pAt;obtain⟨z,hz⟩:∃z,z=sg C.F p':=⟨_,rfl⟩;rw[←hz] at c1;have HC:=Lib.hid (And.intro cc (And.intro c1 (And.intro c2 c3)));have HI:=Lib.hid (And.intro hgo (And.intro hfin (And.intro hz hpt)));have k59:((z.toNat:Int)==59)=(z==59):=gZ z 59;have k38:((z.toNat:Int)==38)=(z==38):=gZ z 38;have k110:((z.toNat:Int)==110)=(z==110):=gZ z 110;clear cc c1 c2 c3 hgo hfin hI hk' hm' hp' hpt hP hz;have key:z=59∨z=38∨z=110∨(z≠59∧z≠38∧z≠110):=by
        by_cases h1:z=59
        ·exact .inl h1
        by_cases h2:z=38
        ·exact .inr (.inl h2)
        by_cases h3:z=110
        ·exact .inr (.inr (.inl h3))
        exact .inr (.inr (.inr ⟨h1,h2,h3⟩))
      rcases key with hk|hk|hk|⟨h1,h2,h3⟩
      case' inr.inr.inr=>
        rw[beq_false_of_ne h1] at k59;rw[beq_false_of_ne h2] at k38;rw[beq_false_of_ne h3] at k110;have HS:=Lib.hid (fun l:List Nd=>Gb (F:=C.F) (p:=p') (l:=l) (u:=(P.length:Int)) (by rw[←HI.out.2.2.1];exact h1) (by rw[←HI.out.2.2.1];exact h2) (by rw[←HI.out.2.2.1];exact h3));clear h1 h2 h3
        go_wp2_with (first
          | (go_at_call 52;with_reducible refine(HC.out.2.1 _ H1.out.1).mono ?_
             rintro e w3 ⟨rfl,hb3⟩;have hE:=HI.out.2.1 p' w3 HS.out (Nat.le_refl _) L3 (H1.out.1.next hb3) (H1.out.2.trans (FuM.of hb3 (Nat.le_of_lt H1.out.1.choose_spec.w.lt)));have HE:=Lib.hid hE;clear hE hb3)
          | (go_at_call 54;with_reducible refine HC.out.1.mono ?_
             rintro e w2 ⟨rfl,hu,hf⟩;have H1:=Lib.hid (And.intro hu hf);clear hu hf)
          | fail)
        obtain⟨ga,ca,v0,e1,e2,e3,e4,hLE⟩:=HE.out.mem hF;obtain⟨nn,hnn⟩:∃nn,nn=P.length+1+m'.length:=⟨_,rfl⟩;rw[←hnn] at e1;have u1:(P.length:Int)<(nn:Int):=by omega
        have u2:(0:Int)≤(P.length:Int):=by omega
        have HT:=Lib.hid hLE;clear hLE hnn HE;go_region;all_goals go_wp2_with fail
        all_goals (try rw[Exit.noGoto_normal])
        all_goals go_end0
        all_goals first|exact⟨rfl,_,_,_,HT.out⟩|exact⟨rfl,_,_,_,HT.out.drew⟩
      case' inl=>
        have t59:((z.toNat:Int)==59)=true:=by rw[k59,hk];rfl
        have hz:=HI.out.2.2.1;have hlt:p'+1≤C.F.length:=qN (by rw[←hz,hk];decide);have v7:IntKind.i64.wrap ((p':Int)+1)=(p':Int)+1:=IntWalk.i64_in _ (by omega);have HZ:=Lib.hid (show sg C.F p'=59∨sg C.F p'=38 by rw[←hz,hk];decide);clear hk hz k59 k38 k110
        go_wp2_with (first
          | (go_at_call 29;with_reducible refine(HC.out.2.2.1 _ (p'+1) hlt (Um.setP H3.out.1.1)).mono ?_
             rintro e w4 ⟨q,g1,g2,g3,g4,rfl,⟨lv4,hU4⟩,hf4⟩;obtain⟨c0,_,_,_,_,_,_,c7,_⟩:=hU4.cells;have H4:=Lib.hid (And.intro (show Um g C _ q k' w4 from ⟨lv4,hU4⟩) (And.intro ((H3.out.2.trans H3.out.1.2).trans hf4) (And.intro (fun l:List Nd=>ER (F:=C.F) (p:=p') (q:=q) (l:=l) (u:=(P.length:Int)) HZ.out g1 g2 g3 g4) (And.intro g1 g2))));clear hU4 hf4 g1 g2 g3 g4)
          | (go_at_call 52;with_reducible refine(HC.out.2.1 _ H1.out.1).mono ?_
             rintro e w3 ⟨rfl,hb3⟩;have hgl3:=H1.out.1.choose_spec.w.lt;obtain⟨lv3,hU3⟩:=H1.out.1.next hb3;have hs3:=hU3.setP (p'+1);rw[show ((p'+1:Nat):Int)=(p':Int)+1 by omega] at hs3;obtain⟨_,_,_,_,_,_,_,c7,_⟩:=hU3.cells;have fz7:=hU3.w.frozen 7;have H3:=Lib.hid (And.intro hs3 (H1.out.2.trans (FuM.of hb3 (Nat.le_of_lt hgl3))));clear hb3 hU3 hs3 hgl3)
          | (go_at_call 54;with_reducible refine HC.out.1.mono ?_
             rintro e w2 ⟨rfl,hu,hf⟩;have H1:=Lib.hid (And.intro hu hf);clear hu hf)
          | fail)
      case' inr.inl=>
        have t59:((z.toNat:Int)==59)=false:=by rw[k59,hk];rfl
        have t38:((z.toNat:Int)==38)=true:=by rw[k38,hk];rfl
        have hz:=HI.out.2.2.1;have hlt:p'+1≤C.F.length:=qN (by rw[←hz,hk];decide);have v7:IntKind.i64.wrap ((p':Int)+1)=(p':Int)+1:=IntWalk.i64_in _ (by omega);have HZ:=Lib.hid (show sg C.F p'=59∨sg C.F p'=38 by rw[←hz,hk];decide);clear hk hz k59 k38 k110
        go_wp2_with (first
          | (go_at_call 29;with_reducible refine(HC.out.2.2.1 _ (p'+1) hlt (Um.setP H3.out.1.1)).mono ?_
             rintro e w4 ⟨q,g1,g2,g3,g4,rfl,⟨lv4,hU4⟩,hf4⟩;obtain⟨c0,_,_,_,_,_,_,c7,_⟩:=hU4.cells;have H4:=Lib.hid (And.intro (show Um g C _ q k' w4 from ⟨lv4,hU4⟩) (And.intro ((H3.out.2.trans H3.out.1.2).trans hf4) (And.intro (fun l:List Nd=>ER (F:=C.F) (p:=p') (q:=q) (l:=l) (u:=(P.length:Int)) HZ.out g1 g2 g3 g4) (And.intro g1 g2))));clear hU4 hf4 g1 g2 g3 g4)
          | (go_at_call 52;with_reducible refine(HC.out.2.1 _ H1.out.1).mono ?_
             rintro e w3 ⟨rfl,hb3⟩;have hgl3:=H1.out.1.choose_spec.w.lt;obtain⟨lv3,hU3⟩:=H1.out.1.next hb3;have hs3:=hU3.setP (p'+1);rw[show ((p'+1:Nat):Int)=(p':Int)+1 by omega] at hs3;obtain⟨_,_,_,_,_,_,_,c7,_⟩:=hU3.cells;have fz7:=hU3.w.frozen 7;have H3:=Lib.hid (And.intro hs3 (H1.out.2.trans (FuM.of hb3 (Nat.le_of_lt hgl3))));clear hb3 hU3 hs3 hgl3)
          | (go_at_call 54;with_reducible refine HC.out.1.mono ?_
             rintro e w2 ⟨rfl,hu,hf⟩;have H1:=Lib.hid (And.intro hu hf);clear hu hf)
          | fail)
      case' inr.inr.inl=>
        have t59:((z.toNat:Int)==59)=false:=by rw[k59,hk];rfl
        have t38:((z.toNat:Int)==38)=false:=by rw[k38,hk];rfl
        have t110:((z.toNat:Int)==110)=true:=by rw[k110,hk];rfl
        have hz:=HI.out.2.2.1;have HZ:=Lib.hid (show sg C.F p'=110 by rw[←hz,hk]);clear hk hz k59 k38 k110
        go_wp2_with (first
          | (go_at_call 29;with_reducible refine(HC.out.2.2.1 _ p' L3 H3.out.1).mono ?_
             rintro e w4 ⟨q,g1,g2,g3,g4,rfl,⟨lv4,hU4⟩,hf4⟩;obtain⟨c0,_,_,_,_,_,_,c7,_⟩:=hU4.cells;have g5:p'+1≤q:=by
               rcases Nat.lt_or_ge p' q with h|h
               ·exact h
               ·exact absurd (by rw[show q=p' by omega];exact HZ.out) g4
             have H4:=Lib.hid (And.intro (show Um g C _ q k' w4 from ⟨lv4,hU4⟩) (And.intro (H3.out.2.trans hf4) (And.intro (fun l:List Nd=>Gc (F:=C.F) (p:=p') (q:=q) (l:=l) (u:=(P.length:Int)) HZ.out g1 g2 g3 g4) (And.intro g5 g2))));clear hU4 hf4 g1 g2 g3 g4 g5)
          | (go_at_call 52;with_reducible refine(HC.out.2.1 _ H1.out.1).mono ?_
             rintro e w3 ⟨rfl,hb3⟩;have H3:=Lib.hid (And.intro (H1.out.1.next hb3) (H1.out.2.trans (FuM.of hb3 (Nat.le_of_lt H1.out.1.choose_spec.w.lt))));clear hb3)
          | (go_at_call 54;with_reducible refine HC.out.1.mono ?_
             rintro e w2 ⟨rfl,hu,hf⟩;have H1:=Lib.hid (And.intro hu hf);clear hu hf)
          | fail)
      all_goals (
        have c3:=HC.out.2.2.2 w4 w4.drew q H4.out.2.2.2.2 H4.out.1 (Below.refl _ w4).drew;obtain⟨b,hb⟩:∃b,b=bH C.F (eI q):=⟨_,rfl⟩;rw[←hb] at c3;have H5:=Lib.hid (And.intro c3 hb);clear c3 hb
        go_region_held3 (fun w'=>w'.cell? ⟨g,0,none⟩=some C.nv∧w'.cell? ⟨g,7,none⟩=some (.int .i64 (q:Int)))
         (first|with_reducible exact⟨c0,c7⟩|exact⟨c0,c7⟩)
         (
          (go_at_call 30;with_reducible refine H5.out.1.mono ?_
           rintro e w5 ⟨rfl,hb5⟩;have H6:=Lib.hid ((Below.refl _ w4).drew.trans hb5);have c0:=wj ((Below.refl _ w4).drew.trans hb5) c0;have c7:=wj ((Below.refl _ w4).drew.trans hb5) c7;clear hb5))
        have hU6:=H4.out.1.next H6.out;have hF6:=H4.out.2.1.trans (FuM.of H6.out (Nat.le_of_lt H4.out.1.choose_spec.w.lt));have HU6:=Lib.hid (And.intro hU6 hF6);clear hU6 hF6;clear H1 HZ;try clear v7 hlt)
      all_goals (
        cases b
        ·have hb:=H5.out.2;have HE:=Lib.hid (HI.out.2.1 q w5 (fun l=>by rw[hb];exact H4.out.2.2.1 l) (by have:=H4.out.2.2.2.1;omega) H4.out.2.2.2.2 HU6.out.1 HU6.out.2);clear c0 c7 hb;go_wp2_with fail;obtain⟨ga,ca,v0,e1,e2,e3,e4,hLE⟩:=HE.out.mem hF;obtain⟨nn,hnn⟩:∃nn,nn=P.length+1+m'.length:=⟨_,rfl⟩;rw[←hnn] at e1;have u1:(P.length:Int)<(nn:Int):=by omega
         have u2:(0:Int)≤(P.length:Int):=by omega
         have HT:=Lib.hid hLE;clear hLE hnn HE;go_region;all_goals go_wp2_with fail
         all_goals (try rw[Exit.noGoto_normal])
         all_goals go_end0
         all_goals first|exact⟨rfl,_,_,_,HT.out⟩|exact⟨rfl,_,_,_,HT.out.drew⟩
        ·have hb:=H5.out.2;have hI:=HI.out.1 q w5 H4.out.2.2.1 H4.out.2.2.2.1 hb.symm HU6.out.1 HU6.out.2;have HE:=Lib.hid hI;clear c0 c7 hb hI;go_wp2_with fail;have hI:=HE.out;refine⟨⟨q,_,_,hI⟩,?_⟩;rw[HI.out.2.2.2,hI.u.pAt]
         have:=hI.lt
         have:=H4.out.2.2.2.1
         omega)
end Go.Proofs.YtfagdpfgifgnoaaGreatDoor
namespace Go.Proofs.YtfagdpfgifgnoaaGreatDoor
open Go.RowKit
set_option linter.unusedVariables false
set_option linter.unusedSimpArgs false
set_option maxRecDepth 100000
attribute [local go_sem] Oper.semAt_some
theorem run_mk14 (P:Program) (t:TypeId) (w:World):(Instr.makeMap t none).run P w=.ok (.map (some w.heap.size)) (w.alloc (.map #[] 0)):=rfl
def ucX (F G:List Lf):Uc:=⟨.slice none 0 0,.slice none 0 0,F,(cE G).l,0,0,Am (cE G).l (jL (cE G).l (cE G).l.length),(F.length:Int)-(G.length:Int),hdL G F,tlL (G.drop (hdL G F)) (F.drop (hdL G F))⟩
def keptN (F G:List Lf):Nat:=tkN (ucX F G) ((jL (cE F).l (cE F).l.length).map (sI (cE F).l))
theorem uk_x {C:Uc} {G:List Lf} (h:Uk C G) (p:Nat):oldC C p=oldC (ucX C.F G) p:=by
  unfold oldC ucX;simp only;rw[h.L,h.f,h.mo,h.hd,h.tl,h.hd]
theorem uk_kept {C:Uc} {G:List Lf} (h:Uk C G) {r:List Nd} {cs:List Nat} (hr:(cE C.F).l=⟨1,0,C.F.length, -1⟩::r) (hp:nW C.F 1 r cs):tkN C cs=keptN C.F G:=by
  unfold keptN;rw[parse_list hp hr];unfold tkN;congr 1;exact List.map_congr_left fun p _=>by rw[uk_x h]
theorem Rd.len {w:World} {B sz n c:Nat} {A:Option Addr} {xs:List Value} (h:Rd w B sz (.slice A n c) n xs):n≤c∧c≤maxLen:=by
  obtain⟨_,A',c',e,e1,e2,_⟩:=h
  cases e;exact⟨e1,e2⟩
theorem Rd.drop {w:World} {B sz n c:Nat} {A:Option Addr} {xs:List Value} (h:Rd w B sz (.slice A n c) n xs) {k:Nat} (hk:k≤n):Rd w B sz (.slice (if c=k then A else A.map (fun x=>x.add (k*sz))) (n-k) (c-k)) (n-k) (xs.drop (k*sz)):=by
  obtain⟨h1,A',c',e,h2,h3,h4,h5⟩:=h
  cases e;refine⟨by rw[List.length_drop,h1,Nat.sub_mul],_,_,rfl,by omega,by omega,fun hA=>?_,fun hn=>?_⟩
  ·by_cases hck:c=k
   ·omega
   ·rw[if_neg hck] at hA
    have:A=none:=by simpa using hA
    have:=h4 this
    omega
  ·obtain⟨g,o,rfl,hg,hc⟩:=h5 (by omega);rw[if_neg (by omega)];refine⟨g,o+k*sz,?_,hg,fun j u hj=>?_⟩
   ·show some ((⟨g,o,none⟩:Addr).add (k*sz))=_;unfold Addr.add;split<;>simp_all
   ·rw[List.getElem?_drop] at hj
    have:=hc _ _ hj
    rwa [←Nat.add_assoc] at this
theorem lfcs_drop:∀(k:Nat) (L:List Lf),fh (L.drop k)=(fh L).drop (k*4)
  | 0,L=>by simp
  | k+1,[]=>by simp[fh]
  | k+1,x::L=>by
    show fh (L.drop k)=(Gm x++fh L).drop ((k+1)*4);rw[lfcs_drop k L,Nat.add_mul,Nat.one_mul,Nat.add_comm,←List.drop_drop];rfl
structure UpI (w:World) (bl b g bm:Nat) (lv:Value) (n:Nat) (f:Int→Int) (cs:Array Value) (W:World):Prop where
  hb:Below w.heap.size w W
  bkl:Bk W bl 25 #[lv]
  imp:IM W b n f
  bg:Bk W g 65 cs
  bb:Bk W bm 62 #[.pointer (some ⟨g,0,none⟩)]
  hlt:w.heap.size≤bl∧bl<b∧b<g∧g<bm
section
variable {w W W':World} {bl b g bm n:Nat} {lv:Value} {f:Int→Int} {cs:Array Value}
theorem UpI.below (h:UpI w bl b g bm lv n f cs W) (hb:Below W.heap.size W W'):UpI w bl b g bm lv n f cs W':=
  ⟨h.hb.trans (hb.mono h.hb.size),h.bkl.below hb h.bkl.lt,h.imp.below hb,h.bg.below hb h.bg.lt,h.bb.below hb h.bb.lt,h.hlt⟩
theorem UpI.set (h:UpI w bl b g bm lv n f cs W) (i:Nat) (v:Value):UpI w bl b g bm lv n f (cs.setIfInBounds i v) (W.setCell ⟨g,i,none⟩ v):=
  have hl:=h.hlt
  ⟨h.hb.setCell (p:=⟨g,i,none⟩) (show w.heap.size≤g by omega) v,h.bkl.far (p:=⟨g,i,none⟩) (show bl≠g by omega) v,h.imp.kept (Below.heap_setCell _ _ _ _ (show b≠g by omega)),h.bg.set i v,h.bb.far (p:=⟨g,i,none⟩) (show bm≠g by omega) v,h.hlt⟩
theorem UpI.put {n':Nat} {f':Int→Int} (h:UpI w bl b g bm lv n f cs W) (hg:W.grownBy W' (some b)) (hi:IM W' b n' f'):UpI w bl b g bm lv n' f' cs W':=
  have hl:=h.hlt
  ⟨Below.grown h.hb hg h.hb.size (fun k hk=>by injection hk with hk;omega),h.bkl.grown hg (fun e=>by injection e with e;omega),hi,h.bg.grown hg (fun e=>by injection e with e;omega),h.bb.grown hg (fun e=>by injection e with e;omega),h.hlt⟩
theorem UpI.keep (h:UpI w bl b g bm lv n f cs W) (ho:W'.os=W.os) (ht:W'.tape=W.tape) (hu:W'.output=W.output) (hs:W.heap.size≤W'.heap.size) (hk:∀k,k≤bm→W'.heap[k]? = W.heap[k]?):UpI w bl b g bm lv n f cs W':=
  have hl:=h.hlt
  ⟨⟨ho.trans h.hb.1,ht.trans h.hb.2,hu.trans h.hb.3,Nat.le_trans h.hb.size hs,fun k hk2=>(hk k (by omega)).trans (h.hb.block k hk2)⟩,(hk bl (by omega)).trans h.bkl,h.imp.kept (hk b (by omega)),(hk g (by omega)).trans h.bg,(hk bm (Nat.le_refl _)).trans h.bb,h.hlt⟩
theorem UpI.xg (h:UpI w bl b g bm lv n f cs W) {X:Nat→Prop} (hx:XG X W W') (hX:∀k,X k→bm<k):UpI w bl b g bm lv n f cs W':=
  h.keep hx.os hx.tape hx.output hx.size (fun k hk=>hx.block k (by have:=h.bb.lt;omega) (fun hh=>by have:=hX k hh;omega))
theorem UpI.grown (h:UpI w bl b g bm lv n f cs W) {row:Option Nat} (hg:W.grownBy W' row) (hr:∀k,row=some k→bm<k):UpI w bl b g bm lv n f cs W':=
  h.keep hg.1 hg.2 hg.3 hg.size (fun k hk=>hg.block k (by have:=h.bb.lt;omega) (fun e=>by have:=hr k e.symm;omega))
theorem UpI.ptr (h:UpI w bl b g bm lv n f cs W):W.cell? ⟨bm,0,none⟩=some (.pointer (some ⟨g,0,none⟩)):=by rw[h.bb.cell];rfl
theorem UpI.row (h:UpI w bl b g bm lv n f cs W):W.cell? ⟨bl,0,none⟩=some lv:=by rw[h.bkl.cell];rfl
end
theorem wp_mapUpdate {P:Program} {w:World} {o:Oper} {a:Act} {K:Act→World→Prop} {Q:Exit→Act→World→Prop} (s x v:Operand) (t:TypeId)
    (ho:o.op=.mapUpdate t s x v) (sv xv vv:Value) (hs:a.eval s=sv) (hx:a.eval x=xv) (hv:a.eval v=vv) (w':World) (hrun:(Instr.mapUpdate t sv xv vv).run P w=.ok () w') (h:K (a.put o.dst undef) w'):Oper.wp P o a w K Q:=by
  unfold Oper.wp;simp[execOp,ho,hs,hx,hv,hrun,Result.andThen];exact h
theorem rangeFunc_g {α:Type} {P:Program} {n:Nat} {g:Operand} {ps:Array Tmp} {assign body:Code} {Q:Exit→Act→World→Prop} {a:Act} {w:World} (gfx:α→Act→Act)
    (h1:1≤n) {gf:Nat} {lb:Array Value} (hg:a.eval g=.func (.func gf) #[] lb) (eg:∀args w,(callFunc gf args).run P w=.ok (.enter gf args) w)
    {encs:α→Array Value} {Kp:World→World→Prop} {S Sp:List α→Prop} {N:List α} {w0:World} (hseq:CQ P gf lb encs Kp S Sp N w0)
    (hKt:∀{A B C:World},Kp A B→Kp B C→Kp A C) (hKb:∀(W:World) (l:Nat) (o o':Obj),w.heap.size≤l→W.heap[l]? = some o→o.isCells=false→o.isWalk=false→Kp W (W.putObj l o')) (hb0:Below w0.heap.size w0 w) (hps:∀x,(encs x).size=ps.size)
    (I:(Nat→Prop)→List α→World→Prop) (Ix:Code→(Nat→Prop)→List α→World→Prop) (hI:gW I) (hIx:∀c,gW (Ix c)) (hIo:∀X,OwnFrom w.heap.size (I X)) (hIxo:∀c X,OwnFrom w.heap.size (Ix c X)) (h0:I (fun _=>False) [] w)
    (hassign:∀(l:Nat) (X:Nat→Prop) (pre:List α) (x:α) (W:World) (K:Act→World→Prop),I X pre W→pre++[x]<+:N→(∀a' W',KeepsFrom w.heap.size W W'→Kp W W'→(∀k,X k→W'.heap[k]? = W.heap[k]?)→I X pre W'→a'=gfx x a→K a' W') →
      assign.wpIn (Fence.wide.inRound l) (n-1-1) P (Exit.then K (fun _ _ _=>False)) {tmps:=(ps.zip (encs x)).foldl (fun t (p,v)=>t.setIfInBounds p v) a.tmps,defers:=[]} W)
    (hbody:∀(l:Nat) (X:Nat→Prop) (pre:List α) (x:α) (W:World),w.heap.size≤l→(∃r,W.heap[l]? = some (.loop r))→I X pre W→pre++[x]<+:N→body.wpIn (Fence.wide.inRound l) (n-1-1) P (C4 w.heap.size Kp X I Ix (pre++[x]) W) (gfx x a) W)
    (hdone:∀(D:Nat) (X:Nat→Prop) (xs:List α) (W:World),w.heap.size≤D→S xs→I X xs W→W.heap[D]? = some (.deferred (some []))→Q .normal {a with defers:={target:=.collected D,args:=#[]}::a.defers} W)
    (hstop:∀(D:Nat) (c:Code) (X:Nat→Prop) (pre:List α) (W:World),w.heap.size≤D→Sp pre→Ix c X pre W→W.heap[D]? = some (.deferred (some []))→c.wpIn Fence.wide n P Q {a with defers:={target:=.collected D,args:=#[]}::a.defers} W) :
    (Code.rangeFunc g ps assign body).wpIn Fence.wide n P Q a w:=
  l7 h1 hg eg hseq hKt hKb hb0 hps I Ix hI hIx hIo hIxo h0 (fun x a' _=>a'=gfx x a) (fun x a'=>fun _ _ _ _ h _ _=>h) hassign (fun l X pre x a' W hl h1 h2 ha h3=>by subst ha;exact hbody l X pre x W hl h1 h2 h3) hdone hstop
theorem UpI.first {w W:World} {bl b g bm n:Nat} {lA nA2:Option Addr} {lcp nc:Nat} {F:List Lf} {L:List Nd} {mo:Int} {hd tl:Nat}
    (h:UpI w bl b g bm (.slice lA L.length lcp) n (Am L (jL L L.length)) #[.slice nA2 F.length nc,.slice lA L.length lcp,.int .i64 mo,.int .i64 (hd:Int),.int .i64 (tl:Int),.map (some b),.slice none 0 0,.int .i64 0,.int .i64 0] W)
    (hn:Rd w w.heap.size 4 (.slice nA2 F.length nc) F.length (fh F)) (hl:Rd w w.heap.size 4 (.slice lA L.length lcp) L.length (dt L)) (W1:World) (hW1:W1=(W.setCell ⟨g,6,none⟩ (.slice (some ⟨W.heap.size,0,none⟩) 1 1)).alloc (.cells #[.int .i64 1,.int .i64 0,.int .i64 (F.length:Int),.int .i64 (-1)] 49)) :
    Um g ⟨.slice nA2 F.length nc,.slice lA L.length lcp,F,L,b,n,Am L (jL L L.length),mo,hd,tl⟩ [⟨1,0,F.length, -1⟩] 0 0 W1∧Bk W1 bm 62 #[.pointer (some ⟨g,0,none⟩)]∧Below w.heap.size w W1∧∀D,D<W.heap.size→D≠g→W1.heap[D]? = W.heap[D]? := by
  have hlt:=h.hlt;have hgl:=h.bg.lt;have hs:(W.setCell ⟨g,6,none⟩ (.slice (some ⟨W.heap.size,0,none⟩) 1 1)).heap.size=W.heap.size:=by simp[World.setCell]
  have h1:=h.set 6 (.slice (some ⟨W.heap.size,0,none⟩) 1 1);have hbA:Below (W.setCell ⟨g,6,none⟩ (.slice (some ⟨W.heap.size,0,none⟩) 1 1)).heap.size (W.setCell ⟨g,6,none⟩ (.slice (some ⟨W.heap.size,0,none⟩) 1 1)) W1:=by rw[hW1];exact(Below.refl _ _).alloc (Nat.le_refl _) _
  have h2:=h1.below hbA;have hr:W1.ownsRow g 49 4 (.slice (some ⟨W.heap.size,0,none⟩) 1 1) 1 (dt [⟨1,0,F.length, -1⟩]):=by
    have hr:=World.ownsRow_lit (e:=49) (size:=4) (base:=g) (W.setCell ⟨g,6,none⟩ (.slice (some ⟨W.heap.size,0,none⟩) 1 1)) #[.int .i64 1,.int .i64 0,.int .i64 (F.length:Int),.int .i64 (-1)] 1 (by rw[hs];exact Nat.le_of_lt hgl) (by unfold maxLen;omega) rfl;rw[hs] at hr;rw[hW1];exact hr
  exact⟨⟨_,h2.bg,hr,(hn.keep h2.hb (Nat.le_refl _)).mono (by omega),(hl.keep h2.hb (Nat.le_refl _)).mono (by omega),h2.imp,hlt.2.2.1⟩,h2.bb,h2.hb,fun D hD hne=>(hbA.block D (by rw[hs];exact hD)).trans (Below.heap_setCell _ _ _ D hne)⟩
theorem ulines_y {g:Nat} {C:Uc} {r:List Nd} {p kp:Nat} {W:World} (hF:FB C.F) (h:Um g C r p kp W) (hp:p≤C.F.length) (hs:sg C.F p=110) :
    Calls Tryz.prog 29 #[.pointer (some ⟨g,0,none⟩)] W fun e w'=>e=.returned (.bool true)∧∃q:Nat,p<q∧q≤C.F.length∧(∀i,p≤i→i<q→sg C.F i=110)∧Um g C r q kp w'∧FuM g W w':=by
  refine(ulines_m hF h hp).mono ?_;rintro e w' ⟨q,h1,h2,h3,h4,rfl,h5,h6⟩;have h7:p<q:=Nat.lt_of_le_of_ne h1 (fun e=>h4 (by rw[←e];exact hs));exact⟨by rw[decide_eq_true h7],q,h7,h2,h3,h5,h6⟩
theorem ulines_n {g:Nat} {C:Uc} {r:List Nd} {p kp:Nat} {W:World} (hF:FB C.F) (h:Um g C r p kp W) (hp:p≤C.F.length) (hs:sg C.F p≠110) :
    Calls Tryz.prog 29 #[.pointer (some ⟨g,0,none⟩)] W fun e w'=>e=.returned (.bool false)∧Um g C r p kp w'∧FuM g W w':=by
  refine(ulines_m hF h hp).mono ?_;rintro e w' ⟨q,h1,h2,h3,h4,rfl,h5,h6⟩;have h7:¬p<q:=fun h=>hs (h3 p (Nat.le_refl _) h)
  have h8:q=p:=by omega
  subst h8;exact⟨by rw[decide_eq_false h7],h5,h6⟩
structure UpL (g:Nat) (C:Uc) (W0:World) (bb:Bool) (r:List Nd) (p k:Nat) (cs:List Nat) (w:World):Prop where
  u:Um g C (⟨1,0,C.F.length, -1⟩::r) p k w
  f:FuM g W0 w
  s:vk C.F r p bb
  pr:nW C.F 1 r cs
  hk:k=tkN C cs
  hp:p≤C.F.length
  hn:1+r.length≤16*p+1+(if bb=true then 4 else 0)
  hkn:k≤1+r.length
section
variable {g:Nat} {C:Uc} {G:List Lf} {W0:World} {bb:Bool} {r:List Nd} {p k:Nat} {cs:List Nat} {w w':World}
theorem UpL.mv (h:UpL g C W0 bb r p k cs w) (hu:Um g C (⟨1,0,C.F.length, -1⟩::r) p k w') (hf:FuM g w w'):UpL g C W0 bb r p k cs w':=⟨hu,h.f.trans hf,h.s,h.pr,h.hk,h.hp,h.hn,h.hkn⟩
theorem UpL.nls (h:UpL g C W0 bb r p k cs w) {q:Nat} (hq:p<q) (hq2:q≤C.F.length) (hs:∀i,p≤i→i<q→sg C.F i=110) (hu:Um g C (⟨1,0,C.F.length, -1⟩::r) q k w') (hf:FuM g w w'):UpL g C W0 bb r q k cs w':=by
  have h1:=Dk (q-p) p h.s (by omega) (fun i h1 h2=>hs i h1 (by omega));rw[show p+(q-p)=q by omega] at h1;exact⟨hu,h.f.trans hf,h1,h.pr,h.hk,hq2,by have:=h.hn;omega,h.hkn⟩
theorem UpL.err (h:UpL g C W0 bb r p k cs w) (hp:p<C.F.length) (hs:sg C.F p≠110) (hb:(!bb&&bH C.F (eI p))=false) (hu:Um g C (⟨1,0,C.F.length, -1⟩::r++[⟨17,p,p+1,0⟩]) (p+1) k w') (hf:FuM g W0 w'):UpL g C W0 false (r++[⟨17,p,p+1,0⟩]) (p+1) k cs w':=by
  have hn:=h.hn;have h2:=h.pr.app (nW.err (1+r.length) p (p+1) [] [] (nW.nil _));rw[List.append_nil] at h2;refine⟨hu,hf,F6 h.s hp hs hb,h2,h.hk,hp,?_,by rw[List.length_append];have:=h.hkn;omega⟩;rw[List.length_append,List.length_singleton];simp only[Bool.false_eq_true,if_false];split at hn<;>omega
theorem UpL.lst (X:Uk C G) (h:UpL g C W0 false r p k cs w) (hp:p<C.F.length) (hs:sg C.F p≠110) (hb:bH C.F (eI p)=true) :
    Calls Tryz.prog 31 #[.pointer (some ⟨g,0,none⟩)] w fun e w'=>e=.returned (.tuple #[])∧∃r' q k' cs',p≤q∧UpL g C W0 true r' q k' cs' w':=by
  have hn:=h.hn;simp only[Bool.false_eq_true,if_false] at hn;refine(ulist_m (P0:=⟨1,0,0, -1⟩::r) X (by simp) h.u hp hb (by rw[List.length_cons];omega) (by rw[List.length_cons];have:=h.hkn;omega) rfl).mono ?_;rintro e w' ⟨rfl,q,m,ds,h1,h2,h3,h4,h5,h6,h7,h8⟩;refine⟨rfl,r++⟨2,p,q,0⟩::m,q,k+tkN C ds,cs++ds,h5,?_⟩;have h9:=FM (F:=C.F) (r:=r) (m:=m) (p:=p) (q:=q) h.s (Nat.le_of_lt hp) hs hb h1;rw[List.length_cons] at h4 h7 h8;have h10:=h.pr.app (nW.lst (1+r.length) p q m [] ds [] (by rw[Nat.add_comm 1];exact h4) (nW.nil _));rw[List.append_nil,List.append_nil] at h10;refine⟨h2,h.f.trans h3,h9,h10,by rw[tkN_app,h.hk],h6,?_,?_⟩
  ·rw[List.length_append,List.length_cons,if_pos rfl];omega
  ·rw[List.length_append,List.length_cons];omega
theorem UpL.fin (h:UpL g C W0 bb r p k cs w) (hp:¬p<C.F.length) (X:Uk C G):(cE C.F).l=⟨1,0,C.F.length, -1⟩::r∧k=keptN C.F G:=by
  have hpe:p=C.F.length:=by have:=h.hp;omega
  have h1:=h.s;rw[hpe] at h1;have h2:=F7 h1;exact⟨h2,by rw[h.hk,uk_kept X h2 h.pr]⟩
end
end Go.Proofs.YtfagdpfgifgnoaaGreatDoor
namespace Go.Proofs.YtfagdpfgifgnoaaGreatDoor
open Go.RowKit
set_option linter.unusedVariables false
set_option linter.unusedSimpArgs false
set_option maxRecDepth 100000
attribute [local go_sem] Oper.semAt_some
set_option maxHeartbeats 8000000 in
theorem update_m (F G:List Lf) (oA lA naP:Option Addr) (oc lcp nc:Nat) (w:World) (hF:FB F) (hG:FB G) (ho:Rd w w.heap.size 4 (.slice oA G.length oc) G.length (fh G)) (hl:Rd w w.heap.size 4 (.slice lA (cE G).l.length lcp) (cE G).l.length (dt (cE G).l)) (hn:Rd w w.heap.size 4 (.slice naP F.length nc) F.length (fh F)) :
    Calls Tryz.prog 9 #[.slice oA G.length oc,.slice lA (cE G).l.length lcp,.slice naP F.length nc] w fun e w'=>∃v,e=.returned (.tuple #[v,.int .i64 (keptN F G:Int)])∧w'.ownsRow w.heap.size 49 4 v (cE F).l.length (dt (cE F).l)∧Below w.heap.size w w':=by
  obtain⟨i0,hi0,hz0,hz1,hz2⟩:=info_parts Tryz.infoNode;have hFn:=hF.n;have hGn:=hG.n;have hpl:=par_len G;have w1:IntKind.i64.wrap ((F.length:Int)-(G.length:Int))=(F.length:Int)-(G.length:Int):=IntWalk.i64_in _ (by omega);have H0:=Lib.hid (And.intro hF (And.intro hG (And.intro ho (And.intro hl hn))));clear hF hG ho hl hn;refine(callsIn_wide (n:=5)).1 ?_;refine callsIn_of_wp_marks Tryz.func9 rfl trivial ?_ rfl;simp only[Tryz.ntmps9,List.size_toArray,List.length_cons,List.length_nil,Nat.reduceAdd,Nat.reduceSub,Array.replicate_succ,Array.replicate_zero,List.push_toArray,List.append_toArray,List.nil_append,List.cons_append];refine(wpIn_wide (n:=5)).2 ?_;go_wp2;rw[run_mk14];go_upto_region 2 with fail
  obtain⟨b,hb⟩:∃b,b=w.heap.size+1:=⟨_,rfl⟩;obtain⟨g,hg⟩:∃g,g=w.heap.size+1+1:=⟨_,rfl⟩;obtain⟨bm,hbm⟩:∃bm,bm=w.heap.size+1+1+1:=⟨_,rfl⟩;obtain⟨bl,hbl⟩:∃bl,bl=w.heap.size:=⟨_,rfl⟩;rw[←hbm,←hg,←hb,←hbl];obtain⟨mo,hmo⟩:∃mo,mo=(F.length:Int)-(G.length:Int):=⟨_,rfl⟩;obtain⟨L,hL⟩:∃L,L=(cE G).l:=⟨_,rfl⟩;rw[←hmo,←hL];obtain⟨W0,hW0⟩:∃W0,W0=((((w.alloc (.cells #[.slice lA L.length lcp] 25)).alloc (.map #[] 0)).alloc (.cells #[.slice naP F.length nc,.slice lA L.length lcp,.int .i64 mo,.int .i64 0,.int .i64 0,.map (some b),.slice none 0 0,.int .i64 0,.int .i64 0] 65)).alloc (.cells #[.pointer (some ⟨g,0,none⟩)] 62)):=⟨_,rfl⟩;rw[←hW0];have hbw:Below w.heap.size w W0:=by rw[hW0];exact((((Below.refl _ w).alloc (Nat.le_refl _) _).alloc (by simp only[World.size_alloc];omega) _).alloc (by simp only[World.size_alloc];omega) _).alloc (by simp only[World.size_alloc];omega) _
  have kl:Bk W0 bl 25 #[.slice lA L.length lcp]:=by rw[hW0,hbl];exact(((Bk.new w _ _).alloc _).alloc _).alloc _
  have hkm:IM W0 b 0 (fun _=>0):=by
    rw[hW0,hb];have h:=IM.made (w.alloc (.cells #[.slice lA L.length lcp] 25));rw[World.size_alloc] at h
    exact(h.alloc _).alloc _
  have hkg:Bk W0 g 65 #[.slice naP F.length nc,.slice lA L.length lcp,.int .i64 mo,.int .i64 0,.int .i64 0,.map (some b),.slice none 0 0,.int .i64 0,.int .i64 0]:=by
    rw[hW0,hg];have h:=Bk.new ((w.alloc (.cells #[.slice lA L.length lcp] 25)).alloc (.map #[] 0)) 65 #[.slice naP F.length nc,.slice lA L.length lcp,.int .i64 mo,.int .i64 0,.int .i64 0,.map (some b),.slice none 0 0,.int .i64 0,.int .i64 0];simp only[World.size_alloc] at h;exact h.alloc _
  have kb:Bk W0 bm 62 #[.pointer (some ⟨g,0,none⟩)]:=by
    rw[hW0,hbm];have h:=Bk.new (((w.alloc (.cells #[.slice lA L.length lcp] 25)).alloc (.map #[] 0)).alloc (.cells #[.slice naP F.length nc,.slice lA L.length lcp,.int .i64 mo,.int .i64 0,.int .i64 0,.map (some b),.slice none 0 0,.int .i64 0,.int .i64 0] 65)) 62 #[.pointer (some ⟨g,0,none⟩)];simp only[World.size_alloc] at h;exact h
  have HI0:=Lib.hid (show UpI w bl b g bm (.slice lA L.length lcp) 0 (fun _=>0) _ W0 from ⟨hbw,kl,hkm,hkg,kb,by omega⟩);have c1:=fun W2 (hb2:Below w.heap.size w W2)=>uhead_m G F oA naP oc nc W2 hGn hFn ((H0.out.2.2.1.keep hb2 (Nat.le_refl _)).mono hb2.size) ((H0.out.2.2.2.2.keep hb2 (Nat.le_refl _)).mono hb2.size)
  obtain⟨hd,hhd⟩:∃hd,hd=hdL G F:=⟨_,rfl⟩;rw[←hhd] at c1;have d0:=HI0.out.ptr;have d3:W0.cell? ⟨g,3,none⟩=some (.int .i64 0):=by rw[HI0.out.bg.cell];rfl
  have f3:W0.frozen? ⟨g,3,none⟩=false:=HI0.out.bg.frozen 3;have HC:=Lib.hid c1;have HN:=Lib.hid (And.intro hmo (And.intro hL hhd));clear hW0 hbw kl hkm hkg kb c1 hb hg hbm hbl hmo hL hhd
  go_region_held3 (fun w'=>w'.cell? ⟨bm,0,none⟩=some (.pointer (some ⟨g,0,none⟩)))
   (first|with_reducible exact d0|exact dz _|exact d0)
   (
    (go_at_call 25;with_reducible refine(HC.out _ (HI0.out.below (Below.refl _ W0).drew).hb).mono ?_
     rintro e w2 ⟨rfl,hb2⟩;have H2:=Lib.hid (HI0.out.below ((Below.refl _ W0).drew.trans hb2));have d0:=H2.out.ptr;have d3:w2.cell? ⟨g,3,none⟩=some (.int .i64 0):=by rw[H2.out.bg.cell];rfl
     have f3:w2.frozen? ⟨g,3,none⟩=false:=H2.out.bg.frozen 3;have dz:=fun v=>(H2.out.set 3 v).ptr
     clear hb2))
  have HI1:=Lib.hid (show UpI w bl b g bm (.slice lA L.length lcp) 0 (fun _=>0) #[.slice naP F.length nc,.slice lA L.length lcp,.int .i64 mo,.int .i64 (hd:Int),.int .i64 0,.map (some b),.slice none 0 0,.int .i64 0,.int .i64 0] _ from H2.out.set 3 (.int .i64 (hd:Int)));clear d0 d3 f3 dz;generalize w2.setCell {block:=g,off:=3} (Value.int IntKind.i64 (hd:Int))=W2 at *;have d0:=HI1.out.ptr;have d3:W2.cell? ⟨g,3,none⟩=some (.int .i64 (hd:Int)):=by rw[HI1.out.bg.cell];rfl
  have d4:W2.cell? ⟨g,4,none⟩=some (.int .i64 0):=by rw[HI1.out.bg.cell];rfl
  have f4:W2.frozen? ⟨g,4,none⟩=false:=HI1.out.bg.frozen 4;have hhd:hd≤G.length∧hd≤F.length:=by rw[HN.out.2.2];exact hdL_le _ _
  have hoc:G.length≤oc∧oc≤maxLen:=H0.out.2.2.1.len;have hnc:F.length≤nc∧nc≤maxLen:=H0.out.2.2.2.2.len;obtain⟨h1,h2⟩:=hhd;obtain⟨h3,h4⟩:=hoc;obtain⟨h5,h6⟩:=hnc;have u1:(0:Int)≤(hd:Int):=by omega
  have u2:(hd:Int)≤(G.length:Int):=by omega
  have u3:(hd:Int)≤(F.length:Int):=by omega
  have c2:=fun W2 (hb2:Below w.heap.size w W2)=>tail_m (G.drop hd) (F.drop hd) (if oc=hd then oA else oA.map (fun x=>x.add (hd*4))) (if nc=hd then naP else naP.map (fun x=>x.add (hd*4))) (oc-hd) (nc-hd) W2 (by rw[List.length_drop];omega) (by rw[List.length_drop];omega) (by rw[List.length_drop,lfcs_drop];exact(((H0.out.2.2.1.keep hb2 (Nat.le_refl _)).mono hb2.size).drop h1)) (by rw[List.length_drop,lfcs_drop];exact(((H0.out.2.2.2.2.keep hb2 (Nat.le_refl _)).mono hb2.size).drop h2))
  rw[List.length_drop,List.length_drop] at c2;obtain⟨oA2,he1⟩:∃x,(if oc=hd then oA else Option.map (fun x=>x.add (hd*4)) oA)=x:=⟨_,rfl⟩;obtain⟨naP2,he2⟩:∃x,(if nc=hd then naP else Option.map (fun x=>x.add (hd*4)) naP)=x:=⟨_,rfl⟩;rw[he1,he2] at c2;obtain⟨tl,htl⟩:∃tl,tl=tlL (G.drop hd) (F.drop hd):=⟨_,rfl⟩;rw[←htl] at c2;have HC2:=Lib.hid (And.intro c2 htl);clear c2 htl;go_wp2_with fail
  go_region_held3 (fun w'=>w'.cell? ⟨bm,0,none⟩=some (.pointer (some ⟨g,0,none⟩))∧w'.cell? ⟨g,3,none⟩=some (.int .i64 (hd:Int)))
   (first|with_reducible exact⟨d0,d3⟩|exact⟨dz _,dx2 _⟩|exact⟨d0,d3⟩)
   (
    (go_at_call 26;with_reducible refine(HC2.out.1 _ (HI1.out.below (Below.refl _ W2).drew).hb).mono ?_
     rintro e w3 ⟨rfl,hb2⟩;have H3:=Lib.hid (HI1.out.below ((Below.refl _ W2).drew.trans hb2));have d0:=H3.out.ptr;have d3:w3.cell? ⟨g,3,none⟩=some (.int .i64 (hd:Int)):=by rw[H3.out.bg.cell];rfl
     have d4:w3.cell? ⟨g,4,none⟩=some (.int .i64 0):=by rw[H3.out.bg.cell];rfl
     have f4:w3.frozen? ⟨g,4,none⟩=false:=H3.out.bg.frozen 4;have dz:=fun v=>(H3.out.set 4 v).ptr
     have dx2:=fun v=>((H3.out.set 4 v).bg.cell 3).trans (rfl:_=some (Value.int .i64 (hd:Int)))
     clear hb2))
  have HI2:=Lib.hid (show UpI w bl b g bm (.slice lA L.length lcp) 0 (fun _=>0) #[.slice naP F.length nc,.slice lA L.length lcp,.int .i64 mo,.int .i64 (hd:Int),.int .i64 (tl:Int),.map (some b),.slice none 0 0,.int .i64 0,.int .i64 0] _ from H3.out.set 4 (.int .i64 (tl:Int)));clear d0 d3 d4 f4 dz dx2;generalize w3.setCell {block:=g,off:=4} (Value.int IntKind.i64 (tl:Int))=W3 at *;have d0:=HI2.out.ptr;have d1:=HI2.out.row;clear u1 u2 u3 h1 h2 h3 h4 h5 h6;have c3:∀W4,Below w.heap.size w W4→Calls Tryz.prog 27 #[.slice lA L.length lcp,.int .i64 (G.length:Int)] W4 fun e w'=>e=.returned (.bool true)∧Below W4.heap.size W4 w':=fun W4 hb4=>by
    obtain⟨p1,r,p2⟩:=Ey G;rw[←HN.out.2.1] at p1 p2;have hr:=(H0.out.2.2.2.1.keep hb4 (Nat.le_refl _)).mono hb4.size;rw[←HN.out.2.1] at hr;rw[←HN.out.2.1] at hpl;exact check14_m L lA lcp G.length W4 (by omega) hr p1 (by rw[p2];rfl)
  have hXa:∀g' o,lA=some ⟨g',o,none⟩→¬g'=b:=fun g' o e=>by
    have hr:=H0.out.2.2.2.1;obtain⟨p1,r,p2⟩:=Ey G;obtain⟨_,A',c',e1,_,_,_,e2⟩:=hr
    cases e1;obtain⟨g2,o2,e3,e4,_⟩:=e2 (by rw[p2];simp);rw[e] at e3
    cases e3
    have:=HI0.out.hlt
    omega
  have c4:∀W4,Below w.heap.size w W4→bm<W4.heap.size→Calls Tryz.prog 28 #[.slice lA L.length lcp] W4 fun e w'=>∃gf lb,e=.returned (.func (.func gf) #[] lb)∧FI gf lb (jL L L.length) (fun k=>k=b) w'∧Below W4.heap.size W4 w':=fun W4 hb4 hbm=>by
    have hr:=(H0.out.2.2.2.1.keep hb4 (Nat.le_refl _)).mono hb4.size;rw[←HN.out.2.1] at hr hpl;exact wJ L (by omega) lA lcp W4 (fun k=>k=b) hXa (by have:=HI0.out.hlt;omega) hr
  have HC4:=Lib.hid (And.intro c3 c4);clear c3 c4 hXa
  go_wp2_with (first
    | (go_at_call 28;with_reducible refine(HC4.out.2 _ H4.out.hb H4.out.bb.lt).mono ?_
       rintro e w5 ⟨gf,lb,rfl,hit,hb5⟩;have H5:=Lib.hid (And.intro hit (H4.out.below hb5));clear hit hb5)
    | (go_at_call 27;with_reducible refine(HC4.out.1 _ HI2.out.hb).mono ?_
       rintro e w4 ⟨rfl,hb4⟩;have H4:=Lib.hid (HI2.out.below hb4);have d1:=H4.out.row;clear hb4)
    | fail)
  have h5:=H5.out.2;obtain⟨cs,hcs⟩:∃cs:Array Value,cs=#[.slice naP F.length nc,.slice lA L.length lcp,.int .i64 mo,.int .i64 (hd:Int),.int .i64 (tl:Int),.map (some b),.slice none 0 0,.int .i64 0,.int .i64 0]:=⟨_,rfl⟩;rw[←hcs] at h5;have hw5:=h5.bb.lt;have HCS:=Lib.hid hcs;refine(wpIn_wide (n:=5)).1 ?_
  refine rangeFunc_g (encs:=zx) (fun (x:Nat) a=>{tmps:=(a.tmps.setIfInBounds 49 (.int .i64 (x:Int))).setIfInBounds 9 (.int .i64 (x:Int)),defers:=[]}) (by omega) (gf:=gf) (lb:=lb) rfl H5.out.1.1 (H5.out.1.2 w5 (Below.refl _ _)) (fun h k=>h.trans k) (fun W l o o' hl h1 h2 h3=>lJ W l o o' hl h1 h2 h3) (Below.refl _ _) (fun _=>rfl)
    (fun X pre W=>∃n,n≤pre.length∧UpI w bl b g bm (.slice lA L.length lcp) n (Am L pre) cs W∧w5.heap.size≤W.heap.size∧∀k,X k→w5.heap.size≤k∧k<W.heap.size)
    (fun _ _ _ _=>False)
    (fun X pre A B ⟨n,h1,h2,h3,h4⟩ hx=>⟨n,h1,h2.xg hx (fun k hk=>by have:=h4 k hk;omega),Nat.le_trans h3 hx.size,fun k hk=>by
      have hs:=hx.size;rcases hk with hk|hk
      ·have:=h4 k hk;omega
      ·omega⟩) (fun _ _ _ _ _ h _=>h)
    (fun X pre W W' row ⟨n,h1,h2,h3,h4⟩ hg hr=>⟨n,h1,h2.grown hg (fun k hk=>by have:=(hr k hk).1;omega),Nat.le_trans h3 hg.size,fun k hk=>by have:=h4 k hk;have:=hg.size;omega⟩) (fun _ _ _ _ _ _ h _ _=>h)
    ⟨0,Nat.zero_le _,h5,Nat.le_refl _,fun k hk=>hk.elim⟩
    ?assign ?body ?done (fun D c X pre W _ _ h _=>h.elim)
  case assign=>
    intro l' X pre x W K hI hpx hK;gi_wp2;have h:=hK _ _ (dN (Below.refl _ _)) (aM.refl _ _ _) (fun k hk=>rfl) hI rfl;simp only[List.setIfInBounds_toArray,List.set_cons_succ,List.set_cons_zero] at h;exact h
  case body=>
    rintro l' X pre x W hl1 hl2 ⟨n,hn,hI,hsz,hX⟩ hpx;dsimp only;simp only[List.setIfInBounds_toArray,List.set_cons_succ,List.set_cons_zero];have hxl:x∈jL L L.length:=hpx.subset (List.mem_append_right _ (List.mem_singleton.2 rfl));have hxL:x<L.length:=List.mem_range.1 (List.mem_filter.1 hxl).1;obtain⟨y,hy⟩:∃y,L[x]? = some y:=⟨_,List.getElem?_eq_getElem hxL⟩;have hrL:=(H0.out.2.2.2.1.keep hI.hb (Nat.le_refl _));rw[←HN.out.2.1] at hrL hpl;obtain⟨g0,o0,rfl,hg0,hc⟩:=bS de hrL hy rfl;obtain⟨yf,hyf⟩:∃z:Int,z=(y.fr:Int):=⟨_,rfl⟩;obtain⟨yt,hyt⟩:∃z:Int,z=(y.tt:Int):=⟨_,rfl⟩;have y1:W.cell? ⟨g0,o0+x*4+1,none⟩=some (.int .i64 yf):=by rw[hyf];exact hc 1 _ rfl
    have y2:W.cell? ⟨g0,o0+x*4+2,none⟩=some (.int .i64 yt):=by rw[hyt];exact hc 2 _ rfl
    have y0:=hI.row;have yp:=hI.ptr;have yq:W.cell? ⟨g,5,none⟩=some (.map (some b)):=by rw[hI.bg.cell,HCS.out];rfl
    have v1:(x:Int)<(L.length:Int):=by omega
    have v2:(0:Int)≤(x:Int):=by omega
    have htm:=EI L pre x;have hfr:sI L x=y.fr:=by unfold sI;rw[hy]
    have htt:Ay L x=y.tt:=by unfold Ay;rw[hy]
    rw[hfr,htt,←hyf] at htm;have hlen:pre.length+1≤L.length:=by
      have h1:=hpx.length_le;rw[List.length_append,List.length_singleton] at h1;exact Nat.le_trans h1 (zj (mq L) L.length)
    have hyb:=par_row G x y (by rw[←HN.out.2.1];exact hy);by_cases hlt:y.fr<y.tt
    ·have t1:decide (yf<yt)=true:=decide_eq_true (by omega);rw[if_pos hlt] at htm;have HX:=Lib.hid (And.intro hI (And.intro htm (And.intro hX hsz)));have hl9:=hI.hlt;have hbs:=hI.hb.size;have htc0:∀(a:Addr) (v:Value),a.block≠b→W.cell? a=some v→W.drew.cell? a=some v:=fun _ _ _ h=>h
     obtain⟨w7,hr7,hm7,hg7⟩:=(hI.imp.drew.drew).put yf (x:Int) (by omega) (by omega) (by omega) (by omega) (by omega);have hP2:=hI.put (W':=w7) (⟨hg7.1,hg7.2,hg7.3,hg7.size,hg7.block⟩:W.grownBy w7 (some b)) hm7;have HP:=Lib.hid (And.intro hr7 (And.intro hP2 (show W.grownBy w7 (some b) from ⟨hg7.1,hg7.2,hg7.3,hg7.size,hg7.block⟩)));have HX2:=Lib.hid hn;have hmix:Tryz.prog.follows .mixedOrders=true:=by kernel_rfl
     clear hI htm hX hpx hxl hy hrL hc hyf hyt hfr htt hl1 hl2 hn hsz hr7 hm7 hg7 hP2 htc0;gi_wp2_with fail;obtain⟨S0,hS0⟩:∃S0:World→Prop,S0=fun w'=>w'=W.drew:=⟨_,rfl⟩
     refine du (S:=S0) hmix (by decide +kernel) (by rintro ⟨a,w,h⟩;exact h) ?_;show wpAnyH _ _ _ _ _ _ _ _ W.drew;have hS1:S0 W.drew:=by rw[hS0]
     have tc:∀w',S0 w'→∀(a:Addr) (v:Value),a.block≠b→W.cell? a=some v→w'.cell? a=some v:=fun w' h a v _ hc=>by rw[hS0] at h;rw[h];exact hc
     refine wpAnyH_take (i:=0) (v:=.slice (some ⟨g0,o0,none⟩) L.length lcp) rfl (by decide +kernel) (by decide +kernel) (by decide +kernel) (fun _ _ _ h=>h) (Or.inl ⟨by rfl,fun w' hS=>?_⟩) hS1 ?_
     ·have c9:=tc w' hS _ _ (show bl≠b by omega) y0;go_simp
     try simp only[Act.put,List.getElem_toArray,List.getElem_cons_succ,List.getElem_cons_zero,List.setIfInBounds_toArray,List.set_cons_zero,List.set_cons_succ]
     refine wpAnyH_take (i:=1) (v:=.int .i64 (x:Int)) rfl (by decide +kernel) (by decide +kernel) (by decide +kernel) (fun _ _ _ h=>h) (Or.inl ⟨by rfl,fun w' hS=>?_⟩) hS1 ?_
     ·go_simp
     try simp only[Act.put,List.getElem_toArray,List.getElem_cons_succ,List.getElem_cons_zero,List.setIfInBounds_toArray,List.set_cons_zero,List.set_cons_succ]
     refine wpAnyH_take (i:=2) (v:=.pointer (some ⟨g0,o0+x*4,none⟩)) rfl (by decide +kernel) (by decide +kernel) (by decide +kernel) (fun _ _ _ h=>h) (Or.inl ⟨by rfl,fun w' hS=>?_⟩) hS1 ?_
     ·go_simp
     try simp only[Act.put,List.getElem_toArray,List.getElem_cons_succ,List.getElem_cons_zero,List.setIfInBounds_toArray,List.set_cons_zero,List.set_cons_succ]
     refine wpAnyH_take (i:=3) (v:=.pointer (some ⟨g0,o0+x*4+1,none⟩)) rfl (by decide +kernel) (by decide +kernel) (by decide +kernel) (fun _ _ _ h=>h) (Or.inl ⟨by rfl,fun w' hS=>?_⟩) hS1 ?_
     ·go_simp
     try simp only[Act.put,List.getElem_toArray,List.getElem_cons_succ,List.getElem_cons_zero,List.setIfInBounds_toArray,List.set_cons_zero,List.set_cons_succ]
     refine wpAnyH_take (i:=4) (v:=.int .i64 yf) rfl (by decide +kernel) (by decide +kernel) (by decide +kernel) (fun _ _ _ h=>h) (Or.inl ⟨by rfl,fun w' hS=>?_⟩) hS1 ?_
     ·have c9:=tc w' hS _ _ (show g0≠b by omega) y1;go_simp
     try simp only[Act.put,List.getElem_toArray,List.getElem_cons_succ,List.getElem_cons_zero,List.setIfInBounds_toArray,List.set_cons_zero,List.set_cons_succ]
     refine wpAnyH_take (i:=5) (v:=.slice (some ⟨g0,o0,none⟩) L.length lcp) rfl (by decide +kernel) (by decide +kernel) (by decide +kernel) (fun _ _ _ h=>h) (Or.inl ⟨by rfl,fun w' hS=>?_⟩) hS1 ?_
     ·have c9:=tc w' hS _ _ (show bl≠b by omega) y0;go_simp
     try simp only[Act.put,List.getElem_toArray,List.getElem_cons_succ,List.getElem_cons_zero,List.setIfInBounds_toArray,List.set_cons_zero,List.set_cons_succ]
     refine wpAnyH_take (i:=6) (v:=.int .i64 (x:Int)) rfl (by decide +kernel) (by decide +kernel) (by decide +kernel) (fun _ _ _ h=>h) (Or.inl ⟨by rfl,fun w' hS=>?_⟩) hS1 ?_
     ·go_simp
     try simp only[Act.put,List.getElem_toArray,List.getElem_cons_succ,List.getElem_cons_zero,List.setIfInBounds_toArray,List.set_cons_zero,List.set_cons_succ]
     refine wpAnyH_take (i:=7) (v:=.pointer (some ⟨g0,o0+x*4,none⟩)) rfl (by decide +kernel) (by decide +kernel) (by decide +kernel) (fun _ _ _ h=>h) (Or.inl ⟨by rfl,fun w' hS=>?_⟩) hS1 ?_
     ·go_simp
     try simp only[Act.put,List.getElem_toArray,List.getElem_cons_succ,List.getElem_cons_zero,List.setIfInBounds_toArray,List.set_cons_zero,List.set_cons_succ]
     refine wpAnyH_take (i:=8) (v:=.pointer (some ⟨g0,o0+x*4+2,none⟩)) rfl (by decide +kernel) (by decide +kernel) (by decide +kernel) (fun _ _ _ h=>h) (Or.inl ⟨by rfl,fun w' hS=>?_⟩) hS1 ?_
     ·go_simp
     try simp only[Act.put,List.getElem_toArray,List.getElem_cons_succ,List.getElem_cons_zero,List.setIfInBounds_toArray,List.set_cons_zero,List.set_cons_succ]
     refine wpAnyH_take (i:=9) (v:=.int .i64 yt) rfl (by decide +kernel) (by decide +kernel) (by decide +kernel) (fun _ _ _ h=>h) (Or.inl ⟨by rfl,fun w' hS=>?_⟩) hS1 ?_
     ·have c9:=tc w' hS _ _ (show g0≠b by omega) y2;go_simp
     try simp only[Act.put,List.getElem_toArray,List.getElem_cons_succ,List.getElem_cons_zero,List.setIfInBounds_toArray,List.set_cons_zero,List.set_cons_succ]
     refine wpAnyH_take (i:=10) (v:=.bool true) rfl (by decide +kernel) (by decide +kernel) (by decide +kernel) (fun _ _ _ h=>h) (Or.inl ⟨by rfl,fun w' hS=>?_⟩) hS1 ?_
     ·go_simp
     try simp only[Act.put,List.getElem_toArray,List.getElem_cons_succ,List.getElem_cons_zero,List.setIfInBounds_toArray,List.set_cons_zero,List.set_cons_succ]
     refine wpAnyH_done (by decide +kernel) ?_ _;clear hS1 tc hS0 S0;gi_wp2_with fail;obtain⟨S0,hS0⟩:∃S0:World→Prop,S0=fun w'=>w'=W.drew.drew∨w'=w7:=⟨_,rfl⟩
     refine du (S:=S0) hmix (by decide +kernel) (by rintro ⟨a,w,h⟩;exact h) ?_;show wpAnyH _ _ _ _ _ _ _ _ W.drew.drew;have hS1:S0 W.drew.drew:=by rw[hS0];exact .inl rfl
     have hS2:S0 w7:=by rw[hS0];exact .inr rfl
     have tc:∀w',S0 w'→∀(a:Addr) (v:Value),a.block≠b→W.cell? a=some v→w'.cell? a=some v:=fun w' h a v hb9 hc=>by
       rw[hS0] at h;rcases h with h|h
       ·rw[h];exact hc
       ·rw[h];unfold World.cell?;rw[HP.out.2.2.block a.block (gD hc) (fun e=>hb9 (by injection e))];exact hc
     refine wpAnyH_take (i:=0) (v:=.pointer (some ⟨g,0,none⟩)) rfl (by decide +kernel) (by decide +kernel) (by decide +kernel) (fun _ _ _ h=>h) (Or.inl ⟨by rfl,fun w' hS=>?_⟩) hS1 ?_
     ·have c9:=tc w' hS _ _ (show bm≠b by omega) yp;go_simp
     try simp only[Act.put,List.getElem_toArray,List.getElem_cons_succ,List.getElem_cons_zero,List.setIfInBounds_toArray,List.set_cons_zero,List.set_cons_succ]
     refine wpAnyH_take (i:=1) (v:=.pointer (some ⟨g,0,none⟩)) rfl (by decide +kernel) (by decide +kernel) (by decide +kernel) (fun _ _ _ h=>h) (Or.inl ⟨by rfl,fun w' hS=>?_⟩) hS1 ?_
     ·go_simp
     try simp only[Act.put,List.getElem_toArray,List.getElem_cons_succ,List.getElem_cons_zero,List.setIfInBounds_toArray,List.set_cons_zero,List.set_cons_succ]
     refine wpAnyH_take (i:=2) (v:=.pointer (some ⟨g,5,none⟩)) rfl (by decide +kernel) (by decide +kernel) (by decide +kernel) (fun _ _ _ h=>h) (Or.inl ⟨by rfl,fun w' hS=>?_⟩) hS1 ?_
     ·go_simp
     try simp only[Act.put,List.getElem_toArray,List.getElem_cons_succ,List.getElem_cons_zero,List.setIfInBounds_toArray,List.set_cons_zero,List.set_cons_succ]
     refine wpAnyH_take (i:=3) (v:=.map (some b)) rfl (by decide +kernel) (by decide +kernel) (by decide +kernel) (fun _ _ _ h=>h) (Or.inl ⟨by rfl,fun w' hS=>?_⟩) hS1 ?_
     ·have c9:=tc w' hS _ _ (show g≠b by omega) yq;go_simp
     try simp only[Act.put,List.getElem_toArray,List.getElem_cons_succ,List.getElem_cons_zero,List.setIfInBounds_toArray,List.set_cons_zero,List.set_cons_succ]
     refine wpAnyH_take (i:=4) (v:=.slice (some ⟨g0,o0,none⟩) L.length lcp) rfl (by decide +kernel) (by decide +kernel) (by decide +kernel) (fun _ _ _ h=>h) (Or.inl ⟨by rfl,fun w' hS=>?_⟩) hS1 ?_
     ·have c9:=tc w' hS _ _ (show bl≠b by omega) y0;go_simp
     try simp only[Act.put,List.getElem_toArray,List.getElem_cons_succ,List.getElem_cons_zero,List.setIfInBounds_toArray,List.set_cons_zero,List.set_cons_succ]
     refine wpAnyH_take (i:=5) (v:=.int .i64 (x:Int)) rfl (by decide +kernel) (by decide +kernel) (by decide +kernel) (fun _ _ _ h=>h) (Or.inl ⟨by rfl,fun w' hS=>?_⟩) hS1 ?_
     ·go_simp
     try simp only[Act.put,List.getElem_toArray,List.getElem_cons_succ,List.getElem_cons_zero,List.setIfInBounds_toArray,List.set_cons_zero,List.set_cons_succ]
     refine wpAnyH_take (i:=6) (v:=.pointer (some ⟨g0,o0+x*4,none⟩)) rfl (by decide +kernel) (by decide +kernel) (by decide +kernel) (fun _ _ _ h=>h) (Or.inl ⟨by rfl,fun w' hS=>?_⟩) hS1 ?_
     ·go_simp
     try simp only[Act.put,List.getElem_toArray,List.getElem_cons_succ,List.getElem_cons_zero,List.setIfInBounds_toArray,List.set_cons_zero,List.set_cons_succ]
     refine wpAnyH_take (i:=7) (v:=.pointer (some ⟨g0,o0+x*4+1,none⟩)) rfl (by decide +kernel) (by decide +kernel) (by decide +kernel) (fun _ _ _ h=>h) (Or.inl ⟨by rfl,fun w' hS=>?_⟩) hS1 ?_
     ·go_simp
     try simp only[Act.put,List.getElem_toArray,List.getElem_cons_succ,List.getElem_cons_zero,List.setIfInBounds_toArray,List.set_cons_zero,List.set_cons_succ]
     refine wpAnyH_take (i:=8) (v:=.int .i64 yf) rfl (by decide +kernel) (by decide +kernel) (by decide +kernel) (fun _ _ _ h=>h) (Or.inl ⟨by rfl,fun w' hS=>?_⟩) hS1 ?_
     ·have c9:=tc w' hS _ _ (show g0≠b by omega) y1;go_simp
     try simp only[Act.put,List.getElem_toArray,List.getElem_cons_succ,List.getElem_cons_zero,List.setIfInBounds_toArray,List.set_cons_zero,List.set_cons_succ]
     refine wpAnyH_take (i:=9) (v:=.int .i64 (x:Int)) rfl (by decide +kernel) (by decide +kernel) (by decide +kernel) (fun _ _ _ h=>h) (Or.inl ⟨by rfl,fun w' hS=>?_⟩) hS1 ?_
     ·go_simp
     try simp only[Act.put,List.getElem_toArray,List.getElem_cons_succ,List.getElem_cons_zero,List.setIfInBounds_toArray,List.set_cons_zero,List.set_cons_succ]
     refine wpAnyH_all (rs:=[10]) (by decide +kernel) (by simp) (aP rfl (by rfl) (fun K hK=>?_) (bz (S:=S0)));refine wp_mapUpdate (.tmp 64) (.tmp 69) (.tmp 70) 63 rfl (.map (some b)) (.int .i64 yf) (.int .i64 (x:Int)) rfl rfl rfl w7 HP.out.1 ?_;refine hK _ _ hS2 ?_;try simp only[Act.put,List.getElem_toArray,List.getElem_cons_succ,List.getElem_cons_zero,List.setIfInBounds_toArray,List.set_cons_zero,List.set_cons_succ]
     refine wpAnyH_done (by decide +kernel) ?_ _;gi_wp2_with fail;obtain⟨_,hp,hg⟩:=HP.out;obtain⟨_,htm,hX,hsz⟩:=HX.out;have hwb:b<w5.heap.size:=by omega
     exact⟨⟨hg.size,fun k o hM ho hc=>(hg.block k (Array.getElem?_eq_some_iff.1 ho).1 (fun e=>by injection e with e;omega)).trans ho⟩,⟨hg.size,fun k hk hx=>hg.block k (by omega) (fun e=>hx (by injection e))⟩,fun k hk=>hg.block k (hX k hk).2 (fun e=>by have:=(hX k hk).1;injection e with e;omega),n+1,by rw[List.length_append,List.length_singleton];have:=HX2.out;omega,by rw[htm];exact hp,by have:=hg.size;omega,fun k hk=>by have:=hX k hk;have:=hg.size;omega⟩
    ·have t1:decide (yf<yt)=false:=decide_eq_false (by omega);rw[if_neg hlt] at htm;have hl9:=hI.hlt;have hbs:=hI.hb.size;have HX:=Lib.hid (And.intro hI (And.intro htm (And.intro hX (And.intro hsz hn))));have hmix:Tryz.prog.follows .mixedOrders=true:=by kernel_rfl
     clear hI htm hX hpx hxl hy hrL hc hyf hyt hfr htt hl1 hl2 hsz hn;gi_wp2_with fail;obtain⟨S0,hS0⟩:∃S0:World→Prop,S0=fun w'=>w'=W.drew:=⟨_,rfl⟩
     refine du (S:=S0) hmix (by decide +kernel) (by rintro ⟨a,w,h⟩;exact h) ?_;show wpAnyH _ _ _ _ _ _ _ _ W.drew;have hS1:S0 W.drew:=by rw[hS0]
     have tc:∀w',S0 w'→∀(a:Addr) (v:Value),a.block≠b→W.cell? a=some v→w'.cell? a=some v:=fun w' h a v _ hc=>by rw[hS0] at h;rw[h];exact hc
     refine wpAnyH_take (i:=0) (v:=.slice (some ⟨g0,o0,none⟩) L.length lcp) rfl (by decide +kernel) (by decide +kernel) (by decide +kernel) (fun _ _ _ h=>h) (Or.inl ⟨by rfl,fun w' hS=>?_⟩) hS1 ?_
     ·have c9:=tc w' hS _ _ (show bl≠b by omega) y0;go_simp
     try simp only[Act.put,List.getElem_toArray,List.getElem_cons_succ,List.getElem_cons_zero,List.setIfInBounds_toArray,List.set_cons_zero,List.set_cons_succ]
     refine wpAnyH_take (i:=1) (v:=.int .i64 (x:Int)) rfl (by decide +kernel) (by decide +kernel) (by decide +kernel) (fun _ _ _ h=>h) (Or.inl ⟨by rfl,fun w' hS=>?_⟩) hS1 ?_
     ·go_simp
     try simp only[Act.put,List.getElem_toArray,List.getElem_cons_succ,List.getElem_cons_zero,List.setIfInBounds_toArray,List.set_cons_zero,List.set_cons_succ]
     refine wpAnyH_take (i:=2) (v:=.pointer (some ⟨g0,o0+x*4,none⟩)) rfl (by decide +kernel) (by decide +kernel) (by decide +kernel) (fun _ _ _ h=>h) (Or.inl ⟨by rfl,fun w' hS=>?_⟩) hS1 ?_
     ·go_simp
     try simp only[Act.put,List.getElem_toArray,List.getElem_cons_succ,List.getElem_cons_zero,List.setIfInBounds_toArray,List.set_cons_zero,List.set_cons_succ]
     refine wpAnyH_take (i:=3) (v:=.pointer (some ⟨g0,o0+x*4+1,none⟩)) rfl (by decide +kernel) (by decide +kernel) (by decide +kernel) (fun _ _ _ h=>h) (Or.inl ⟨by rfl,fun w' hS=>?_⟩) hS1 ?_
     ·go_simp
     try simp only[Act.put,List.getElem_toArray,List.getElem_cons_succ,List.getElem_cons_zero,List.setIfInBounds_toArray,List.set_cons_zero,List.set_cons_succ]
     refine wpAnyH_take (i:=4) (v:=.int .i64 yf) rfl (by decide +kernel) (by decide +kernel) (by decide +kernel) (fun _ _ _ h=>h) (Or.inl ⟨by rfl,fun w' hS=>?_⟩) hS1 ?_
     ·have c9:=tc w' hS _ _ (show g0≠b by omega) y1;go_simp
     try simp only[Act.put,List.getElem_toArray,List.getElem_cons_succ,List.getElem_cons_zero,List.setIfInBounds_toArray,List.set_cons_zero,List.set_cons_succ]
     refine wpAnyH_take (i:=5) (v:=.slice (some ⟨g0,o0,none⟩) L.length lcp) rfl (by decide +kernel) (by decide +kernel) (by decide +kernel) (fun _ _ _ h=>h) (Or.inl ⟨by rfl,fun w' hS=>?_⟩) hS1 ?_
     ·have c9:=tc w' hS _ _ (show bl≠b by omega) y0;go_simp
     try simp only[Act.put,List.getElem_toArray,List.getElem_cons_succ,List.getElem_cons_zero,List.setIfInBounds_toArray,List.set_cons_zero,List.set_cons_succ]
     refine wpAnyH_take (i:=6) (v:=.int .i64 (x:Int)) rfl (by decide +kernel) (by decide +kernel) (by decide +kernel) (fun _ _ _ h=>h) (Or.inl ⟨by rfl,fun w' hS=>?_⟩) hS1 ?_
     ·go_simp
     try simp only[Act.put,List.getElem_toArray,List.getElem_cons_succ,List.getElem_cons_zero,List.setIfInBounds_toArray,List.set_cons_zero,List.set_cons_succ]
     refine wpAnyH_take (i:=7) (v:=.pointer (some ⟨g0,o0+x*4,none⟩)) rfl (by decide +kernel) (by decide +kernel) (by decide +kernel) (fun _ _ _ h=>h) (Or.inl ⟨by rfl,fun w' hS=>?_⟩) hS1 ?_
     ·go_simp
     try simp only[Act.put,List.getElem_toArray,List.getElem_cons_succ,List.getElem_cons_zero,List.setIfInBounds_toArray,List.set_cons_zero,List.set_cons_succ]
     refine wpAnyH_take (i:=8) (v:=.pointer (some ⟨g0,o0+x*4+2,none⟩)) rfl (by decide +kernel) (by decide +kernel) (by decide +kernel) (fun _ _ _ h=>h) (Or.inl ⟨by rfl,fun w' hS=>?_⟩) hS1 ?_
     ·go_simp
     try simp only[Act.put,List.getElem_toArray,List.getElem_cons_succ,List.getElem_cons_zero,List.setIfInBounds_toArray,List.set_cons_zero,List.set_cons_succ]
     refine wpAnyH_take (i:=9) (v:=.int .i64 yt) rfl (by decide +kernel) (by decide +kernel) (by decide +kernel) (fun _ _ _ h=>h) (Or.inl ⟨by rfl,fun w' hS=>?_⟩) hS1 ?_
     ·have c9:=tc w' hS _ _ (show g0≠b by omega) y2;go_simp
     try simp only[Act.put,List.getElem_toArray,List.getElem_cons_succ,List.getElem_cons_zero,List.setIfInBounds_toArray,List.set_cons_zero,List.set_cons_succ]
     refine wpAnyH_take (i:=10) (v:=.bool false) rfl (by decide +kernel) (by decide +kernel) (by decide +kernel) (fun _ _ _ h=>h) (Or.inl ⟨by rfl,fun w' hS=>?_⟩) hS1 ?_
     ·go_simp
     try simp only[Act.put,List.getElem_toArray,List.getElem_cons_succ,List.getElem_cons_zero,List.setIfInBounds_toArray,List.set_cons_zero,List.set_cons_succ]
     refine wpAnyH_done (by decide +kernel) ?_ _;gi_wp2_with fail;obtain⟨hI,htm,hX,hsz,hn⟩:=HX.out;exact⟨dN (Below.refl _ W).drew,aM.of_below (Below.refl _ W).drew hsz,fun k hk=>rfl,n,by rw[List.length_append,List.length_singleton];omega,by rw[htm];exact hI.below (Below.refl _ W).drew,hsz,hX⟩
  case done=>
    rintro D X ys W hD hys ⟨n,hn,hI,hsz,hX⟩ hK;rw[hys] at hI;dsimp only;have d0:=hI.ptr;have d6:W.cell? ⟨g,6,none⟩=some (.slice none 0 0):=by rw[hI.bg.cell,HCS.out];rfl
    have f6:=hI.bg.frozen 6;have hgl:=hI.bg.lt;have hl9:=hI.hlt;have hDl:=(Array.getElem?_eq_some_iff.1 hK).1;rw[HCS.out] at hI;have hrl:=H0.out.2.2.2.1;rw[←HN.out.2.1] at hrl;obtain⟨W1,hW1⟩:∃W1,W1=(W.setCell ⟨g,6,none⟩ (.slice (some ⟨W.heap.size,0,none⟩) 1 1)).alloc (.cells #[.int .i64 1,.int .i64 0,.int .i64 (F.length:Int),.int .i64 (-1)] 49):=⟨_,rfl⟩;obtain⟨e1,e2,e3,e4⟩:=hI.first H0.out.2.2.2.2 hrl W1 hW1;obtain⟨C,hC⟩:∃C:Uc,C=⟨.slice naP F.length nc,.slice lA L.length lcp,F,L,b,n,Am L (jL L L.length),mo,hd,tl⟩:=⟨_,rfl⟩;rw[←hC] at e1;have hCF:C.F=F:=by rw[hC]
    have hX:Uk C G:=⟨by rw[hC];exact H0.out.1,H0.out.2.1,by rw[hC];exact HN.out.2.1,by rw[hC,←HN.out.2.1],by rw[hC];exact HN.out.1,by rw[hC];exact HN.out.2.2,by rw[hC];exact HC2.out.2⟩;have hK1:W1.heap[D]? = some (.deferred (some [])):=(e4 D hDl (by omega)).trans hK;have hL0:UpL g C W1 false [] 0 0 [] W1:=⟨by rw[hCF];exact e1,FuM.refl _ _,EG _,nW.nil _,rfl,Nat.zero_le _,by simp,by simp⟩;have HL:=Lib.hid (And.intro hL0 (And.intro hX (And.intro hCF (And.intro hK1 (And.intro e2 (And.intro e3 hC))))));have hbmk:∀W',FuM g W1 W'→W'.cell? ⟨bm,0,none⟩=some (.pointer (some ⟨g,0,none⟩)):=fun W' h=>by rw[(e2.kt h.kt (by decide)).cell];rfl
    have HBM:=Lib.hid hbmk;have HBK:=Lib.hid (fun W' (h:FuM g W1 W')=>e2.kt h.kt (by decide));have HI6:=Lib.hid hl9;have hfn:C.F.length≤900:=by rw[hCF];exact hFn
    clear hI hK hX hsz hn hys hL0 hK1 e1 e2 e3 e4 hrl hC hbmk;have HW1:=Lib.hid hW1;clear hW1;go_wp2_with fail;rw[←HW1.out];clear HW1 d6 f6 hgl d0;go_loopw [10] (fun s10 wr=>∃(bb:Bool) (r:List Nd) (p k:Nat) (cs:List Nat),s10=.bool bb∧UpL g C W1 bb r p k cs wr) (fun s10 wr=>2*(F.length-pAt g wr)+(match s10 with | .bool true=>0|_=>1))
    case atStart=>exact⟨false,[],0,0,[],rfl,HL.out.1⟩
    case round=>
      obtain⟨bb,r,p,k,cs,rfl,hU⟩:=hrel;have d0:=HBM.out wr hU.f;obtain⟨lv,hul⟩:=hU.u;obtain⟨_,_,_,_,_,_,c6,c7,c8⟩:=hul.cells;have hpt:pAt g wr=p:=hU.u.pAt;by_cases hlt:p<F.length
      ·have t0:(p:Int)<(F.length:Int):=by omega
       have hltC:p<C.F.length:=by rw[hCF];exact hlt
       by_cases hs:sg C.F p=110
       ·have cl:=ulines_y HL.out.2.1.hfF hU.u hU.hp hs;have HU:=Lib.hid (And.intro cl (And.intro hU hpt));clear cl hU hpt hul hs;go_wp2_with (
          (go_at_call 29;with_reducible refine HU.out.1.mono ?_
           rintro e w2 ⟨rfl,q,h1,h2,h3,h4,h5⟩;have H2:=Lib.hid (And.intro h1 (HU.out.2.1.nls h1 h2 h3 h4 h5));clear h1 h2 h3 h4 h5))
        refine⟨⟨bb,r,q,k,cs,rfl,H2.out.2⟩,?_⟩;rw[H2.out.2.u.pAt,HU.out.2.2]
        have:=H2.out.1
        exact Nat.add_lt_add_right (by omega) _
       ·have cl:=ulines_n HL.out.2.1.hfF hU.u hU.hp hs;have cb:∀w2,Um g C (⟨1,0,C.F.length, -1⟩::r) p k w2→Calls Tryz.prog 30 #[.slice naP F.length nc,.int .i64 (p:Int)] w2 fun e w'=>e=.returned (.bool (bH C.F (eI p)))∧Below w2.heap.size w2 w':=fun w2 hu=>by
          have h:=ubegins_m HL.out.2.1 hu hU.hp w2 (Below.refl _ _)
          rwa [show C.nv=.slice naP F.length nc by rw[HL.out.2.2.2.2.2.2]] at h
        obtain⟨pb,hpb⟩:∃pb,pb=bH C.F (eI p):=⟨_,rfl⟩;rw[←hpb] at cb;have HU:=Lib.hid (And.intro cl (And.intro cb (And.intro hU (And.intro hpt (And.intro hs hpb)))));have hp9:=hU.hp;clear cl cb hU hpt hul hs hpb
        cases bb
        case' false=>
          cases pb
          case' true=>
            have c_l:=fun w3 (h:UpL g C W1 false r p k cs w3)=>h.lst HL.out.2.1 hltC HU.out.2.2.2.2.1 HU.out.2.2.2.2.2.symm
            have HCL:=Lib.hid c_l;clear c_l
            go_wp2_with (first
              | (go_at_call 31;with_reducible refine(HCL.out _ H3.out).mono ?_
                 rintro e w4 ⟨rfl,r',q,k',cs',h1,h2⟩;have H4:=Lib.hid (And.intro h1 h2);clear h1 h2)
              | (go_at_call 30;with_reducible refine(HU.out.2.1 _ H2.out.u).mono ?_
                 rintro e w3 ⟨rfl,hb3⟩;have h3:=H2.out.mv (H2.out.u.next hb3) (FuM.of hb3 (Nat.le_of_lt H2.out.u.choose_spec.w.lt));have d0:=HBM.out w3 h3.f;have H3:=Lib.hid h3;clear hb3 h3)
              | (go_at_call 29;with_reducible refine HU.out.1.mono ?_
                 rintro e w2 ⟨rfl,h1,h2⟩;have h3:=HU.out.2.2.1.mv h1 h2;have d0:=HBM.out w2 h3.f;obtain⟨lv2,hu2⟩:=h1;obtain⟨_,_,_,_,_,_,c6,c7,_⟩:=hu2.cells;have H2:=Lib.hid h3;clear h2 h3 hu2)
              | fail)
            refine⟨⟨true,r',q,k',cs',rfl,H4.out.2⟩,?_⟩;rw[H4.out.2.u.pAt,HU.out.2.2.2.1]
            have:=H4.out.1
            show 2*(F.length-q)+0<2*(F.length-p)+1;omega
          case' false=>
            go_wp2_with (first
              | (go_at_call 30;with_reducible refine(HU.out.2.1 _ H2.out.u).mono ?_
                 rintro e w3 ⟨rfl,hb3⟩;have h3:=H2.out.mv (H2.out.u.next hb3) (FuM.of hb3 (Nat.le_of_lt H2.out.u.choose_spec.w.lt));have d0:=HBM.out w3 h3.f;have H3:=Lib.hid h3;clear hb3 h3)
              | (go_at_call 29;with_reducible refine HU.out.1.mono ?_
                 rintro e w2 ⟨rfl,h1,h2⟩;have h3:=HU.out.2.2.1.mv h1 h2;have d0:=HBM.out w2 h3.f;obtain⟨lv2,hu2⟩:=h1;obtain⟨_,_,_,_,_,_,c6,c7,_⟩:=hu2.cells;have H2:=Lib.hid h3;clear h2 h3 hu2)
              | fail)
            clear H2 c6 c7
        case' true=>
          go_wp2_with (
            (go_at_call 29;with_reducible refine HU.out.1.mono ?_
             rintro e w3 ⟨rfl,h1,h2⟩;have h3:=HU.out.2.2.1.mv h1 h2;have d0:=HBM.out w3 h3.f;have H3:=Lib.hid h3;clear h1 h2 h3))
          clear c6 c7 c8
        all_goals (
          obtain⟨lv3,hu3⟩:=H3.out.u;have hr3:=H3.out.hn;have hgl3:=hu3.w.lt;obtain⟨A3,n3,c3,rfl⟩:=az hu3.r;obtain rfl:=bN hu3.r;obtain⟨_,_,_,_,_,_,c6,c7,_⟩:=hu3.cells;have f6:=hu3.w.frozen 6;have d0:=HBM.out w3 H3.out.f;have hne3:(Value.slice A3 (⟨1,0,C.F.length, -1⟩::r:List Nd).length c3).ownBlock≠some g:=aL hu3.r hu3.w (by decide);have hrl:(⟨1,0,C.F.length, -1⟩::r:List Nd).length=1+r.length:=by rw[List.length_cons];omega
          obtain⟨P3,hP3⟩:∃P3,P3=(⟨1,0,C.F.length, -1⟩::r:List Nd):=⟨_,rfl⟩;rw[←hP3] at hu3 hne3 hrl c6;have hq3:P3.length≤20000:=by rw[hrl];split at hr3<;>omega
          have v3:IntKind.i64.wrap ((p:Int)+1)=(p:Int)+1:=IntWalk.i64_in _ (by omega);have hkb3:=HBK.out w3 H3.out.f;have HP3:=Lib.hid (And.intro hu3 (And.intro hP3 (And.intro hne3 hkb3)));clear hu3 hr3 hrl hP3 hne3 hkb3;have hbg:bm≠g:=by have:=HI6.out;omega
          obtain⟨S0,hS0⟩:∃S0:World→Prop,S0=fun w'=>w'.cell? ⟨bm,0,none⟩=some (.pointer (some ⟨g,0,none⟩))∧w'.cell? ⟨g,7,none⟩=some (.int .i64 (p:Int)):=⟨_,rfl⟩
          have hmix:Tryz.prog.follows .mixedOrders=true:=by kernel_rfl
          refine wp_region_noPanic (wp_region_held (S:=S0) hmix ?_);show wpAnyH _ _ _ _ _ _ _ _ w3.drew;have hS1:S0 w3.drew:=by rw[hS0];exact⟨d0,c7⟩
          have hSA:S0 (w3.drew.alloc (.cells #[.int .i64 17,.int .i64 (p:Int),.int .i64 ((p:Int)+1),.int .i64 0] 49)):=by rw[hS0];exact⟨eE d0,eE c7⟩
          have tb:∀w',S0 w'→w'.cell? ⟨bm,0,none⟩=some (.pointer (some ⟨g,0,none⟩)):=fun w' h=>by rw[hS0] at h;exact h.1
          have tp:∀w',S0 w'→w'.cell? ⟨g,7,none⟩=some (.int .i64 (p:Int)):=fun w' h=>by rw[hS0] at h;exact h.2
          have c6b:=eE (o:=.cells #[.int .i64 17,.int .i64 (p:Int),.int .i64 ((p:Int)+1),.int .i64 0] 49) (show w3.drew.cell? ⟨g,6,none⟩=some (.slice A3 P3.length c3) from c6);refine wpAnyH_take (i:=0) (v:=.pointer (some ⟨g,0,none⟩)) rfl (by decide +kernel) (by decide +kernel) (by decide +kernel) (fun _ _ _ h=>h) (Or.inl ⟨by rfl,fun w' hS=>?_⟩) hS1 ?_
          ·have c9:=tb w' hS;go_simp
          try simp only[Act.put,List.getElem_toArray,List.getElem_cons_succ,List.getElem_cons_zero,List.setIfInBounds_toArray,List.set_cons_zero,List.set_cons_succ]
          refine wpAnyH_take (i:=1) (v:=.pointer (some ⟨g,0,none⟩)) rfl (by decide +kernel) (by decide +kernel) (by decide +kernel) (fun _ _ _ h=>h) (Or.inl ⟨by rfl,fun w' hS=>?_⟩) hS1 ?_
          ·have c9:=tb w' hS;go_simp
          try simp only[Act.put,List.getElem_toArray,List.getElem_cons_succ,List.getElem_cons_zero,List.setIfInBounds_toArray,List.set_cons_zero,List.set_cons_succ]
          refine wpAnyH_take (i:=2) (v:=.pointer (some ⟨g,0,none⟩)) rfl (by decide +kernel) (by decide +kernel) (by decide +kernel) (fun _ _ _ h=>h) (Or.inl ⟨by rfl,fun w' hS=>?_⟩) hS1 ?_
          ·go_simp
          try simp only[Act.put,List.getElem_toArray,List.getElem_cons_succ,List.getElem_cons_zero,List.setIfInBounds_toArray,List.set_cons_zero,List.set_cons_succ]
          refine wpAnyH_take (i:=3) (v:=.pointer (some ⟨g,6,none⟩)) rfl (by decide +kernel) (by decide +kernel) (by decide +kernel) (fun _ _ _ h=>h) (Or.inl ⟨by rfl,fun w' hS=>?_⟩) hS1 ?_
          ·go_simp
          try simp only[Act.put,List.getElem_toArray,List.getElem_cons_succ,List.getElem_cons_zero,List.setIfInBounds_toArray,List.set_cons_zero,List.set_cons_succ]
          refine wpAnyH_take (i:=5) (v:=.pointer (some ⟨g,0,none⟩)) rfl (by decide +kernel) (by decide +kernel) (by decide +kernel) (fun _ _ _ h=>h) (Or.inl ⟨by rfl,fun w' hS=>?_⟩) hS1 ?_
          ·have c9:=tb w' hS;go_simp
          try simp only[Act.put,List.getElem_toArray,List.getElem_cons_succ,List.getElem_cons_zero,List.setIfInBounds_toArray,List.set_cons_zero,List.set_cons_succ]
          refine wpAnyH_take (i:=6) (v:=.pointer (some ⟨g,0,none⟩)) rfl (by decide +kernel) (by decide +kernel) (by decide +kernel) (fun _ _ _ h=>h) (Or.inl ⟨by rfl,fun w' hS=>?_⟩) hS1 ?_
          ·go_simp
          try simp only[Act.put,List.getElem_toArray,List.getElem_cons_succ,List.getElem_cons_zero,List.setIfInBounds_toArray,List.set_cons_zero,List.set_cons_succ]
          refine wpAnyH_take (i:=7) (v:=.pointer (some ⟨g,7,none⟩)) rfl (by decide +kernel) (by decide +kernel) (by decide +kernel) (fun _ _ _ h=>h) (Or.inl ⟨by rfl,fun w' hS=>?_⟩) hS1 ?_
          ·go_simp
          try simp only[Act.put,List.getElem_toArray,List.getElem_cons_succ,List.getElem_cons_zero,List.setIfInBounds_toArray,List.set_cons_zero,List.set_cons_succ]
          refine wpAnyH_take (i:=8) (v:=.int .i64 (p:Int)) rfl (by decide +kernel) (by decide +kernel) (by decide +kernel) (fun _ _ _ h=>h) (Or.inl ⟨by rfl,fun w' hS=>?_⟩) hS1 ?_
          ·have c9:=tp w' hS;go_simp
          try simp only[Act.put,List.getElem_toArray,List.getElem_cons_succ,List.getElem_cons_zero,List.setIfInBounds_toArray,List.set_cons_zero,List.set_cons_succ]
          refine wpAnyH_take (i:=9) (v:=.pointer (some ⟨g,0,none⟩)) rfl (by decide +kernel) (by decide +kernel) (by decide +kernel) (fun _ _ _ h=>h) (Or.inl ⟨by rfl,fun w' hS=>?_⟩) hS1 ?_
          ·have c9:=tb w' hS;go_simp
          try simp only[Act.put,List.getElem_toArray,List.getElem_cons_succ,List.getElem_cons_zero,List.setIfInBounds_toArray,List.set_cons_zero,List.set_cons_succ]
          refine wpAnyH_take (i:=10) (v:=.pointer (some ⟨g,0,none⟩)) rfl (by decide +kernel) (by decide +kernel) (by decide +kernel) (fun _ _ _ h=>h) (Or.inl ⟨by rfl,fun w' hS=>?_⟩) hS1 ?_
          ·go_simp
          try simp only[Act.put,List.getElem_toArray,List.getElem_cons_succ,List.getElem_cons_zero,List.setIfInBounds_toArray,List.set_cons_zero,List.set_cons_succ]
          refine wpAnyH_take (i:=11) (v:=.pointer (some ⟨g,7,none⟩)) rfl (by decide +kernel) (by decide +kernel) (by decide +kernel) (fun _ _ _ h=>h) (Or.inl ⟨by rfl,fun w' hS=>?_⟩) hS1 ?_
          ·go_simp
          try simp only[Act.put,List.getElem_toArray,List.getElem_cons_succ,List.getElem_cons_zero,List.setIfInBounds_toArray,List.set_cons_zero,List.set_cons_succ]
          refine wpAnyH_take (i:=12) (v:=.int .i64 (p:Int)) rfl (by decide +kernel) (by decide +kernel) (by decide +kernel) (fun _ _ _ h=>h) (Or.inl ⟨by rfl,fun w' hS=>?_⟩) hS1 ?_
          ·have c9:=tp w' hS;go_simp
          try simp only[Act.put,List.getElem_toArray,List.getElem_cons_succ,List.getElem_cons_zero,List.setIfInBounds_toArray,List.set_cons_zero,List.set_cons_succ]
          refine wpAnyH_take (i:=13) (v:=.int .i64 ((p:Int)+1)) rfl (by decide +kernel) (by decide +kernel) (by decide +kernel) (fun _ _ _ h=>h) (Or.inl ⟨by rfl,fun w' hS=>?_⟩) hS1 ?_
          ·go_simp
          try simp only[Act.put,List.getElem_toArray,List.getElem_cons_succ,List.getElem_cons_zero,List.setIfInBounds_toArray,List.set_cons_zero,List.set_cons_succ]
          refine wpAnyH_take (i:=14) (v:=.agg #[.int .i64 17,.int .i64 (p:Int),.int .i64 ((p:Int)+1),.int .i64 0]) rfl (by decide +kernel) (by decide +kernel) (by decide +kernel) (fun _ _ _ h=>h) (Or.inl ⟨by rfl,fun w' hS=>?_⟩) hS1 ?_
          ·go_simp
          try simp only[Act.put,List.getElem_toArray,List.getElem_cons_succ,List.getElem_cons_zero,List.setIfInBounds_toArray,List.set_cons_zero,List.set_cons_succ]
          refine wpAnyH_all (rs:=[4,15]) (by decide +kernel) (by simp) (aP rfl (by rfl) (fun K2 hK2=>?_) (aP rfl (by rfl) (fun K2 hK2=>?_) (bz (S:=S0))))
          ·go_simp;refine hK2 _ _ hS1 ?_;clear hK2 K2;try simp only[Act.put,List.getElem_toArray,List.getElem_cons_succ,List.getElem_cons_zero,List.setIfInBounds_toArray,List.set_cons_zero,List.set_cons_succ]
           refine wpAnyH_all (rs:=[15]) (by decide +kernel) (by simp) (aP rfl (by rfl) (fun K2 hK2=>?_) (bz (S:=S0)));go_simp;refine hK2 _ _ hSA ?_;clear hK2 K2;try simp only[Act.put,List.getElem_toArray,List.getElem_cons_succ,List.getElem_cons_zero,List.setIfInBounds_toArray,List.set_cons_zero,List.set_cons_succ]
           refine wpAnyH_all (rs:=[16]) (by decide +kernel) (by simp) (aP rfl (by rfl) (fun K2 hK2=>?_) (bz (S:=S0)));refine eh (.tmp 89) (.tmp 100) 25 rfl g 49 i0 _ 4 32 Tryz.underlying25 hi0 hz0 hz1 hz2 rfl (by decide) (.slice A3 P3.length c3) P3.length (dt P3) rfl (HP3.out.1.r.alloc _) (.slice (some ⟨w3.heap.size,0,none⟩) 1 1) 1 (w3.heap.size+1) (dt [⟨17,p,p+1,0⟩]) rfl (Rd.drew (eM w3 (dt [⟨17,p,p+1,0⟩]) 49 4 1 rfl (by omega))) (DO _) (by unfold maxLen;omega) (by omega) (by simp;omega) ?_;intro v1 w1 hown1 hg1 hv1;obtain⟨gn,cn,rfl⟩:=fK hown1;have kk:=(HP3.out.1.w.alloc (.cells #[.int .i64 17,.int .i64 (p:Int),.int .i64 ((p:Int)+1),.int .i64 0] 49)).drew.grown hg1 (fun e=>HP3.out.2.2.1 e.symm);have y0:=kk.cell 6;have y1:=kk.frozen 6;have hkb:=(HP3.out.2.2.2.alloc (.cells #[.int .i64 17,.int .i64 (p:Int),.int .i64 ((p:Int)+1),.int .i64 0] 49)).drew.grown hg1 (fun e=>aL HP3.out.1.r HP3.out.2.2.2 (by decide) e.symm);have hSB:S0 w1:=by rw[hS0];exact⟨by rw[hkb.cell];rfl,by rw[kk.cell];rfl⟩
           have H9:=Lib.hid (And.intro hown1 (And.intro hg1 (And.intro kk hkb)));clear hown1 hg1 hv1 kk hkb;refine hK2 _ _ hSB ?_;clear hK2 K2;try simp only[Act.put,List.getElem_toArray,List.getElem_cons_succ,List.getElem_cons_zero,List.setIfInBounds_toArray,List.set_cons_zero,List.set_cons_succ]
           refine wpAnyH_take (i:=17) (v:=.pointer (some ⟨g,0,none⟩)) rfl (by decide +kernel) (by decide +kernel) (by decide +kernel) (fun _ _ _ h=>h) (Or.inl ⟨by rfl,fun w' hS=>?_⟩) hSB ?_
           ·go_simp
           try simp only[Act.put,List.getElem_toArray,List.getElem_cons_succ,List.getElem_cons_zero,List.setIfInBounds_toArray,List.set_cons_zero,List.set_cons_succ]
           refine wpAnyH_take (i:=18) (v:=.pointer (some ⟨g,6,none⟩)) rfl (by decide +kernel) (by decide +kernel) (by decide +kernel) (fun _ _ _ h=>h) (Or.inl ⟨by rfl,fun w' hS=>?_⟩) hSB ?_
           ·go_simp
           try simp only[Act.put,List.getElem_toArray,List.getElem_cons_succ,List.getElem_cons_zero,List.setIfInBounds_toArray,List.set_cons_zero,List.set_cons_succ]
           have hSC:S0 (w1.setCell ⟨g,6,none⟩ (.slice (some ⟨gn,0,none⟩) (P3.length+1) cn)):=by
             rw[hS0];have h1:=H9.out.2.2.2.far (p:=⟨g,6,none⟩) hbg (.slice (some ⟨gn,0,none⟩) (P3.length+1) cn);have h2:=H9.out.2.2.1.set 6 (.slice (some ⟨gn,0,none⟩) (P3.length+1) cn);exact⟨by rw[h1.cell];rfl,by rw[h2.cell];rfl⟩
           refine wpAnyH_all (rs:=[19]) (by decide +kernel) (by simp) (aP rfl (by rfl) (fun K2 hK2=>?_) (bz (S:=S0)));go_simp;refine hK2 _ _ hSC ?_;clear hK2 K2;try simp only[Act.put,List.getElem_toArray,List.getElem_cons_succ,List.getElem_cons_zero,List.setIfInBounds_toArray,List.set_cons_zero,List.set_cons_succ]
           refine wpAnyH_done (by decide +kernel) ?_ _;refine NoPanic.normal ?_;have hbA:Below w3.heap.size w3 (w3.drew.alloc (.cells #[.int .i64 17,.int .i64 (p:Int),.int .i64 ((p:Int)+1),.int .i64 0] 49)):=(Below.refl _ w3).drew.alloc (Nat.le_refl _) _;have hq:=Ul.push (x:=⟨17,p,p+1,0⟩) (HP3.out.1.next hbA) H9.out.1 H9.out.2.1;have hf5:=H3.out.f.trans ((FuM.of hbA (Nat.le_of_lt hgl3)).trans hq.2);have H10:=Lib.hid (And.intro hq.1 hf5);clear hq hf5 hbA hSC hSB hSA hS1 tb tp c6b y0 y1 d0 c6 c7 f6 H9 hS0 S0;generalize w1.setCell {block:=g,off:=6} (Value.slice (some {block:=gn,off:=0}) (P3.length+1) cn)=w5 at *;have hs5:=H10.out.1.setP (p+1);rw[show ((p+1:Nat):Int)=(p:Int)+1 by omega] at hs5;obtain⟨_,_,_,_,_,_,_,c7,_⟩:=H10.out.1.cells;have f7:=H10.out.1.w.frozen 7;have d0:=HBM.out w5 H10.out.2;have H11:=Lib.hid hs5;clear hs5;go_wp2_with fail;have hz:=H11.out;rw[HP3.out.2.1] at hz;have hu9:Um g C (⟨1,0,C.F.length, -1⟩::r++[⟨17,p,p+1,0⟩]) (p+1) k _:=⟨_,hz.1⟩;refine⟨⟨false,r++[⟨17,p,p+1,0⟩],p+1,k,cs,rfl,H3.out.err hltC HU.out.2.2.2.2.1 (by first|rfl|(rw[←HU.out.2.2.2.2.2];rfl)) hu9 (H10.out.2.trans hz.2)⟩,?_⟩;rw[hu9.pAt,HU.out.2.2.2.1];show 2*(F.length-(p+1))+1<2*(F.length-p)+_;omega
          ·go_simp;refine hK2 _ _ hSA ?_;clear hK2 K2;try simp only[Act.put,List.getElem_toArray,List.getElem_cons_succ,List.getElem_cons_zero,List.setIfInBounds_toArray,List.set_cons_zero,List.set_cons_succ]
           refine wpAnyH_all (rs:=[4]) (by decide +kernel) (by simp) (aP rfl (by rfl) (fun K2 hK2=>?_) (bz (S:=S0)));go_simp;refine hK2 _ _ hSA ?_;clear hK2 K2;try simp only[Act.put,List.getElem_toArray,List.getElem_cons_succ,List.getElem_cons_zero,List.setIfInBounds_toArray,List.set_cons_zero,List.set_cons_succ]
           refine wpAnyH_all (rs:=[16]) (by decide +kernel) (by simp) (aP rfl (by rfl) (fun K2 hK2=>?_) (bz (S:=S0)));refine eh (.tmp 89) (.tmp 100) 25 rfl g 49 i0 _ 4 32 Tryz.underlying25 hi0 hz0 hz1 hz2 rfl (by decide) (.slice A3 P3.length c3) P3.length (dt P3) rfl (HP3.out.1.r.alloc _) (.slice (some ⟨w3.heap.size,0,none⟩) 1 1) 1 (w3.heap.size+1) (dt [⟨17,p,p+1,0⟩]) rfl (Rd.drew (eM w3 (dt [⟨17,p,p+1,0⟩]) 49 4 1 rfl (by omega))) (DO _) (by unfold maxLen;omega) (by omega) (by simp;omega) ?_;intro v1 w1 hown1 hg1 hv1;obtain⟨gn,cn,rfl⟩:=fK hown1;have kk:=(HP3.out.1.w.alloc (.cells #[.int .i64 17,.int .i64 (p:Int),.int .i64 ((p:Int)+1),.int .i64 0] 49)).drew.grown hg1 (fun e=>HP3.out.2.2.1 e.symm);have y0:=kk.cell 6;have y1:=kk.frozen 6;have hkb:=(HP3.out.2.2.2.alloc (.cells #[.int .i64 17,.int .i64 (p:Int),.int .i64 ((p:Int)+1),.int .i64 0] 49)).drew.grown hg1 (fun e=>aL HP3.out.1.r HP3.out.2.2.2 (by decide) e.symm);have hSB:S0 w1:=by rw[hS0];exact⟨by rw[hkb.cell];rfl,by rw[kk.cell];rfl⟩
           have H9:=Lib.hid (And.intro hown1 (And.intro hg1 (And.intro kk hkb)));clear hown1 hg1 hv1 kk hkb;refine hK2 _ _ hSB ?_;clear hK2 K2;try simp only[Act.put,List.getElem_toArray,List.getElem_cons_succ,List.getElem_cons_zero,List.setIfInBounds_toArray,List.set_cons_zero,List.set_cons_succ]
           refine wpAnyH_take (i:=17) (v:=.pointer (some ⟨g,0,none⟩)) rfl (by decide +kernel) (by decide +kernel) (by decide +kernel) (fun _ _ _ h=>h) (Or.inl ⟨by rfl,fun w' hS=>?_⟩) hSB ?_
           ·go_simp
           try simp only[Act.put,List.getElem_toArray,List.getElem_cons_succ,List.getElem_cons_zero,List.setIfInBounds_toArray,List.set_cons_zero,List.set_cons_succ]
           refine wpAnyH_take (i:=18) (v:=.pointer (some ⟨g,6,none⟩)) rfl (by decide +kernel) (by decide +kernel) (by decide +kernel) (fun _ _ _ h=>h) (Or.inl ⟨by rfl,fun w' hS=>?_⟩) hSB ?_
           ·go_simp
           try simp only[Act.put,List.getElem_toArray,List.getElem_cons_succ,List.getElem_cons_zero,List.setIfInBounds_toArray,List.set_cons_zero,List.set_cons_succ]
           have hSC:S0 (w1.setCell ⟨g,6,none⟩ (.slice (some ⟨gn,0,none⟩) (P3.length+1) cn)):=by
             rw[hS0];have h1:=H9.out.2.2.2.far (p:=⟨g,6,none⟩) hbg (.slice (some ⟨gn,0,none⟩) (P3.length+1) cn);have h2:=H9.out.2.2.1.set 6 (.slice (some ⟨gn,0,none⟩) (P3.length+1) cn);exact⟨by rw[h1.cell];rfl,by rw[h2.cell];rfl⟩
           refine wpAnyH_all (rs:=[19]) (by decide +kernel) (by simp) (aP rfl (by rfl) (fun K2 hK2=>?_) (bz (S:=S0)));go_simp;refine hK2 _ _ hSC ?_;clear hK2 K2;try simp only[Act.put,List.getElem_toArray,List.getElem_cons_succ,List.getElem_cons_zero,List.setIfInBounds_toArray,List.set_cons_zero,List.set_cons_succ]
           refine wpAnyH_done (by decide +kernel) ?_ _;refine NoPanic.normal ?_;have hbA:Below w3.heap.size w3 (w3.drew.alloc (.cells #[.int .i64 17,.int .i64 (p:Int),.int .i64 ((p:Int)+1),.int .i64 0] 49)):=(Below.refl _ w3).drew.alloc (Nat.le_refl _) _;have hq:=Ul.push (x:=⟨17,p,p+1,0⟩) (HP3.out.1.next hbA) H9.out.1 H9.out.2.1;have hf5:=H3.out.f.trans ((FuM.of hbA (Nat.le_of_lt hgl3)).trans hq.2);have H10:=Lib.hid (And.intro hq.1 hf5);clear hq hf5 hbA hSC hSB hSA hS1 tb tp c6b y0 y1 d0 c6 c7 f6 H9 hS0 S0;generalize w1.setCell {block:=g,off:=6} (Value.slice (some {block:=gn,off:=0}) (P3.length+1) cn)=w5 at *;have hs5:=H10.out.1.setP (p+1);rw[show ((p+1:Nat):Int)=(p:Int)+1 by omega] at hs5;obtain⟨_,_,_,_,_,_,_,c7,_⟩:=H10.out.1.cells;have f7:=H10.out.1.w.frozen 7;have d0:=HBM.out w5 H10.out.2;have H11:=Lib.hid hs5;clear hs5;go_wp2_with fail;have hz:=H11.out;rw[HP3.out.2.1] at hz;have hu9:Um g C (⟨1,0,C.F.length, -1⟩::r++[⟨17,p,p+1,0⟩]) (p+1) k _:=⟨_,hz.1⟩;refine⟨⟨false,r++[⟨17,p,p+1,0⟩],p+1,k,cs,rfl,H3.out.err hltC HU.out.2.2.2.2.1 (by first|rfl|(rw[←HU.out.2.2.2.2.2];rfl)) hu9 (H10.out.2.trans hz.2)⟩,?_⟩;rw[hu9.pAt,HU.out.2.2.2.1];show 2*(F.length-(p+1))+1<2*(F.length-p)+_;omega)
      ·obtain⟨h1,h2⟩:=hU.fin (by rw[hCF];exact hlt) HL.out.2.1;have t0:decide (p<F.length)=false:=decide_eq_false hlt;have t1:¬(p:Int)<(F.length:Int):=by omega
       have hwD:=HL.out.2.2.2.1;have hKr:wr.heap[D]? = some (.deferred (some [])):=hU.f.kt D _ hwD (fun cs t fr e=>by cases e);have hw5b:=H5.out.2.hb.size;have hbw:Below w.heap.size w wr:=HL.out.2.2.2.2.2.1.trans (hU.f.hb.mono (by have:=HI6.out;omega));have hr9:=hul.r;rw[hCF] at h1 h2;rw[hCF,←h1] at hr9;have hr9:=ez (B':=w.heap.size) hr9 (by have:=HI6.out;omega);have HE:=Lib.hid (And.intro hKr (And.intro hbw (And.intro hr9 h2)));clear h1 h2 hwD hKr hbw hr9 hpt hul hU hw5b;go_wp2_with fail;go_quiet (fail);go_wp2_with fail;have hw5b:=H5.out.2.hb.size;have hbk:=belowK_b (w:=w) (Nat.le_refl _) (wr.drewN nq) D (.deferred (some [])) (.deferred none) (by omega) HE.out.1 rfl rfl;refine⟨by simp,.inl ⟨_,_,rfl,run_takeDeferred (w:=wr.drewN nq) HE.out.1,?_⟩⟩;refine⟨.tuple #[lv,.int .i64 (k:Int)],by simp[results,Tryz.results9,go_sem],lv,by rw[HE.out.2.2.2],?_,(ae HE.out.2.1 nq).trans hbk⟩;exact World.ownsRow.kept (w:=wr.drewN nq) HE.out.2.2.1 (grownBy_putObj' (wr.drewN nq) D (.deferred none)) (.inr (fun e=>by have:=cz HE.out.2.2.1 e HE.out.1;cases this))
end Go.Proofs.YtfagdpfgifgnoaaGreatDoor
