/- Package token: behind, the lexing behind a token that is in no document. -/
import Derived.Test.YtlbfdbinaekjoaaGreatDoorSt9
import Derived.Test.YtlbfdbinaekjoaaGreatDoorBv8
namespace Go.Proofs.YtlbfdbinaekjoaaGreatDoor
open Go.RowKit
set_option linter.unusedVariables false
set_option linter.unusedSimpArgs false
set_option maxRecDepth 100000
def lxv (aw:Int) (v:Value) (bd:Bool):Value:=.agg #[.int .i64 aw,v,.bool bd]
def LxP (w:World) (X:Lx) (e:Value):Prop:=∃v,e=lxv X.aw v X.bd∧Rt w 94 2 v X.pd.length (dcls X.pd)
theorem fin_l0 {w w2:World} {B1 n base e:Nat} {t:TypeId} {u0 u1 u2:Value} {xs:List Value} (v0 v v2:Value) (k1:Bk w2 B1 t #[u0,u1,u2]) (hbw:Below w.heap.size w w2) (hB:w.heap.size≤B1) (hown:w2.ownsRow base e 2 v n xs) (hbase:B1<base) :
    ∀W5,W5=((w2.setCell ⟨B1,0,none⟩ v0).setCell ⟨B1,1,none⟩ v).setCell ⟨B1,2,none⟩ v2→Bk W5 B1 t #[v0,v,v2]∧Below w.heap.size w W5∧W5.ownsRow base e 2 v n xs:=by
  rintro W5 rfl
  have hne:v.ownBlock≠some B1:=by
    intro h
    have:=(hown.lt B1 h).1
    omega
  exact⟨((k1.set 0 v0).set 1 v).set 2 v2,((hbw.setCell (p:=⟨B1,0,none⟩) hB _).setCell (p:=⟨B1,1,none⟩) hB _).setCell (p:=⟨B1,2,none⟩) hB _,own_far (p:=⟨B1,2,none⟩) (own_far (p:=⟨B1,1,none⟩) (own_far (p:=⟨B1,0,none⟩) hown hne v0) hne v) hne v2⟩
theorem fin_lx {w w2:World} {B1 n base e:Nat} {t:TypeId} {u0 u1 u2:Value} {xs:List Value} (v0 v v2:Value) (o:Obj) (k1:Bk w2 B1 t #[u0,u1,u2]) (hbw:Below w.heap.size w w2) (hB:w.heap.size≤B1) (hown:w2.ownsRow base e 2 v n xs) (hbase:B1<base) :
    ∀W5,W5=(((w2.setCell ⟨B1,0,none⟩ v0).setCell ⟨B1,1,none⟩ v).setCell ⟨B1,2,none⟩ v2).alloc o→W5.cell? ⟨B1,0,none⟩=some v0∧W5.cell? ⟨B1,1,none⟩=some v∧W5.cell? ⟨B1,2,none⟩=some v2∧Below w.heap.size w W5∧Rt W5 e 2 v n xs:=by
  rintro W5 rfl
  obtain⟨k,hb,ho⟩:=fin_l0 v0 v v2 k1 hbw hB hown hbase _ rfl
  obtain⟨q0,q1,q2,_⟩:=(k.alloc o).three
  exact⟨q0,q1,q2,hb.alloc hb.size _,Rt.of_own (ho.alloc o)⟩
set_option maxHeartbeats 4000000 in
theorem behind_a (S:List UInt8) (k:Nat) (X:Lx) (A:Option Addr) (n c:Nat) (w:World) (hS:S.length≤900) (hn:n=X.pd.length) (hv0:Rt w 94 2 (.slice A n c) n (dcls X.pd)) (hl:n≤10000) (hk:k≠6∧k≤7) :
    Calls Tryz.prog 63 #[.string ⟨S.toArray⟩,.int .i64 (k:Int),lxv X.aw (.slice A n c) X.bd] w fun e w'=>∃v,e=.returned v∧LxP w' (behindL S k X) v∧Below w.heap.size w w':=by
  have hv:=hv0.rd
  clear hv0
  have hol:=opOf_le S
  unfold lxv
  obtain⟨o,ho⟩:∃o,o=opOf S:=⟨_,rfl⟩
  have hB:∀Y,Y=behindL S k X→(k=1∧Y=⟨X.aw,X.pd,false⟩)∨(k=2∧Y=⟨0,X.pd,decide (0<n)⟩)∨(k=4∧o=4∧Y=⟨4,X.pd,false⟩)∨(k=4∧o=5∧Y=⟨5,X.pd,false⟩)∨(k=4∧o≠4∧o≠5∧Y=⟨0,X.pd,false⟩)∨(k≠1∧k≠2∧k≠4∧Y=⟨0,X.pd,false⟩):=by
    intro Y hY
    unfold behindL at hY
    rw[←ho] at hY
    by_cases h1:k=1
    ·rw[if_pos h1] at hY;exact .inl ⟨h1,hY⟩
    ·rw[if_neg h1] at hY
     by_cases h2:k=2
     ·rw[if_pos h2] at hY
      exact .inr (.inl ⟨h2,by rw[hY,hn];cases X.pd<;>rfl⟩)
     ·rw[if_neg h2] at hY
      by_cases h4:k=4
      ·rw[if_pos h4] at hY
       by_cases o4:o=4
       ·rw[if_pos (.inl o4),o4] at hY;exact .inr (.inr (.inl ⟨h4,o4,hY⟩))
       ·by_cases o5:o=5
        ·rw[if_pos (.inr o5),o5] at hY;exact .inr (.inr (.inr (.inl ⟨h4,o5,hY⟩)))
        ·rw[if_neg (by rintro (h|h);exact o4 h;exact o5 h)] at hY;exact .inr (.inr (.inr (.inr (.inl ⟨h4,o4,o5,hY⟩))))
      ·rw[if_neg h4,if_neg hk.1] at hY
       exact .inr (.inr (.inr (.inr (.inr ⟨h1,h2,h4,hY⟩))))
  obtain⟨Y,hY⟩:∃Y,Y=behindL S k X:=⟨_,rfl⟩
  rw[←hY]
  have hc:=hB Y hY
  have HV:=Lib.hid (And.intro hv (And.intro hn ho))
  clear hB hY hv hn ho
  have hol:o≤17:=by have:=HV.out.2.2;omega
  rcases hc with ⟨rfl,hY⟩|⟨rfl,hY⟩|⟨rfl,rfl,hY⟩|⟨rfl,rfl,hY⟩|⟨rfl,o4,o5,hY⟩|⟨k1,k2,k4,hY⟩
  all_goals (
    have HY:=Lib.hid hY
    clear hY
    first
      | (have o4':((o:Int)==4)=false:=by (simp;omega)
         have o5':((o:Int)==5)=false:=by (simp;omega)
         clear o4 o5)
      | (have j1:((k:Int)==1)=false:=by (simp;omega)
         have j2:((k:Int)==2)=false:=by (simp;omega)
         have j4:((k:Int)==4)=false:=by (simp;omega)
         have j6:((k:Int)==6)=false:=by (simp;omega)
         clear k1 k2 k4)
      | skip
    go_enter Tryz.func63,Tryz.ntmps63
    go_wp2_with (first
      | (go_at_call 71
         refine(clone9_m X.pd A n c _ HV.out.2.1 ((HV.out.1.keep (by go_grown) (Nat.le_refl _)).mono (by simp<;>omega)) (by omega)).mono ?_
         rintro e w2 ⟨v1,rfl,hown,hb2⟩
         have k0:Bk w2 w.heap.size 47 #[.int .i64 X.aw,.slice A n c,.bool X.bd]:=((Bk.new w _ _).alloc _).below hb2 (by simp<;>omega)
         have k1:Bk w2 (w.heap.size+1) 47 #[.int .i64 0,.slice none 0 0,.bool false]:=(bk_second w _ _ _ _).below hb2 (by simp<;>omega)
         have hbw:Below w.heap.size w w2:=(((Below.refl _ w).alloc (Nat.le_refl _) _).alloc (by simp) _).trans (hb2.mono (by simp<;>omega))
         have hsz:w.heap.size+2≤w2.heap.size:=by have:=hb2.size;simpa using this
         have hs0:w.heap.size<w2.heap.size:=by omega
         have hs1:w.heap.size+1<w2.heap.size:=by omega
         obtain⟨A1,n1,c1,rfl⟩:=own_form' hown
         obtain rfl:=own_len hown
         obtain⟨y0,y1,y2,y3,y4,y5⟩:=k0.three
         obtain⟨x0,x1,x2,x3,x4,x5⟩:=k1.three
         have H2:=Lib.hid (And.intro k0 (And.intro k1 (And.intro hbw hown)))
         clear hb2 k0 k1 hbw hown)
      | (go_at_call 80
         refine(opof_m S _ (by omega)).mono ?_
         rintro e w3 ⟨he,rfl⟩
         rw[←HV.out.2.2] at he
         subst he))
    obtain⟨q0,q1,q2,hb5,hr5⟩:=fin_lx (.int .i64 Y.aw) _ (.bool Y.bd) (.cells #[.int .i64 Y.aw,.slice A1 n1 c1,.bool Y.bd] 47) H2.out.2.1 H2.out.2.2.1 (by omega) H2.out.2.2.2 (by simp<;>omega) _ rfl
    rw[HY.out] at q0 q1 q2 hb5 hr5
    simp only at q0 q1 q2 hb5 hr5
    generalize World.alloc _ _=W5 at q0 q1 q2 hb5 hr5 ⊢
    refine bodyPost_ret (v:=lxv Y.aw (.slice A1 n1 c1) Y.bd) (by rw[HY.out];simp[results,Tryz.results63,go_sem,lxv,q0,q1,q2]) rfl ⟨_,rfl,⟨_,rfl,?_⟩,hb5⟩
    rw[HY.out,←HV.out.2.1]
    exact hr5)
set_option maxHeartbeats 4000000 in
theorem behind_b (S:List UInt8) (X:Lx) (A:Option Addr) (n c:Nat) (w:World) (hS:S.length≤900) (hn:n=X.pd.length) (hv0:Rt w 94 2 (.slice A n c) n (dcls X.pd)) (hl:n≤10000) :
    Calls Tryz.prog 63 #[.string ⟨S.toArray⟩,.int .i64 6,lxv X.aw (.slice A n c) X.bd] w fun e w'=>∃v,e=.returned v∧LxP w' (behindL S 6 X) v∧Below w.heap.size w w':=by
  have hv:=hv0.rd
  clear hv0
  unfold lxv
  obtain⟨Y,hY⟩:∃Y,Y=behindL S 6 X:=⟨_,rfl⟩
  rw[←hY]
  have HV:=Lib.hid (And.intro hv hn)
  clear hv hn
  by_cases ha:X.aw=0
  ·have j0:(X.aw != 0)=false:=by simpa using ha
   have HY:=Lib.hid (show Y=⟨0,X.pd,false⟩ by rw[hY];simp[behindL,ha])
   clear hY ha
   go_enter Tryz.func63,Tryz.ntmps63
   go_wp2_with (first
     | (go_at_call 71
        refine(clone9_m X.pd A n c _ HV.out.2 ((HV.out.1.keep (by go_grown) (Nat.le_refl _)).mono (by simp<;>omega)) (by omega)).mono ?_
        rintro e w2 ⟨v1,rfl,hown,hb2⟩
        have k0:Bk w2 w.heap.size 47 #[.int .i64 X.aw,.slice A n c,.bool X.bd]:=((Bk.new w _ _).alloc _).below hb2 (by simp<;>omega)
        have k1:Bk w2 (w.heap.size+1) 47 #[.int .i64 0,.slice none 0 0,.bool false]:=(bk_second w _ _ _ _).below hb2 (by simp<;>omega)
        have hbw:Below w.heap.size w w2:=(((Below.refl _ w).alloc (Nat.le_refl _) _).alloc (by simp) _).trans (hb2.mono (by simp<;>omega))
        have hsz:w.heap.size+2≤w2.heap.size:=by have:=hb2.size;simpa using this
        have hs0:w.heap.size<w2.heap.size:=by omega
        have hs1:w.heap.size+1<w2.heap.size:=by omega
        obtain⟨A1,n1,c1,rfl⟩:=own_form' hown
        obtain rfl:=own_len hown
        obtain⟨y0,y1,y2,y3,y4,y5⟩:=k0.three
        obtain⟨x0,x1,x2,x3,x4,x5⟩:=k1.three
        have H2:=Lib.hid (And.intro k0 (And.intro k1 (And.intro hbw hown)))
        clear hb2 k0 k1 hbw hown))
   obtain⟨q0,q1,q2,hb5,hr5⟩:=fin_lx (.int .i64 Y.aw) _ (.bool Y.bd) (.cells #[.int .i64 Y.aw,.slice A1 n1 c1,.bool Y.bd] 47) H2.out.2.1 H2.out.2.2.1 (by omega) H2.out.2.2.2 (by simp<;>omega) _ rfl
   rw[HY.out] at q0 q1 q2 hb5 hr5
   simp only at q0 q1 q2 hb5 hr5
   generalize World.alloc _ _=W5 at q0 q1 q2 hb5 hr5 ⊢
   refine bodyPost_ret (v:=lxv Y.aw (.slice A1 n1 c1) Y.bd) (by rw[HY.out];simp[results,Tryz.results63,go_sem,lxv,q0,q1,q2]) rfl ⟨_,rfl,⟨_,rfl,?_⟩,hb5⟩
   rw[HY.out,←HV.out.2]
   exact hr5
  ·have j0:(X.aw != 0)=true:=by simpa using ha
   obtain⟨T,hT⟩:∃T,T=txL (pcsL S):=⟨_,rfl⟩
   obtain⟨b5,hb5⟩:∃b5,b5=(X.aw==5):=⟨_,rfl⟩
   have j5:(X.aw==5)=b5:=hb5.symm
   have HY:=Lib.hid (show Y=⟨0,X.pd++[(T,b5)],false⟩ by rw[hY,hT,hb5];simp[behindL,ha];rfl)
   have HT:=Lib.hid hT
   clear hY ha hT hb5
   obtain⟨i0,hi0,hz0,hz1,hz2⟩:=info_parts Tryz.infoDelim
   go_enter Tryz.func63,Tryz.ntmps63
   go_wp2_with (first
     | (go_at_call 71
        refine(clone9_m X.pd A n c _ HV.out.2 ((HV.out.1.keep (by go_grown) (Nat.le_refl _)).mono (by simp<;>omega)) (by omega)).mono ?_
        rintro e w2 ⟨v1,rfl,hown,hb2⟩
        have k0:Bk w2 w.heap.size 47 #[.int .i64 X.aw,.slice A n c,.bool X.bd]:=((Bk.new w _ _).alloc _).below hb2 (by simp<;>omega)
        have k1:Bk w2 (w.heap.size+1) 47 #[.int .i64 0,.slice none 0 0,.bool false]:=(bk_second w _ _ _ _).below hb2 (by simp<;>omega)
        have hbw:Below w.heap.size w w2:=(((Below.refl _ w).alloc (Nat.le_refl _) _).alloc (by simp) _).trans (hb2.mono (by simp<;>omega))
        have hsz:w.heap.size+2≤w2.heap.size:=by have:=hb2.size;simpa using this
        have hs0:w.heap.size<w2.heap.size:=by omega
        have hs1:w.heap.size+1<w2.heap.size:=by omega
        obtain⟨A1,n1,c1,rfl⟩:=own_form' hown
        obtain rfl:=own_len hown
        obtain⟨y0,y1,y2,y3,y4,y5⟩:=k0.three
        obtain⟨x0,x1,x2,x3,x4,x5⟩:=k1.three
        have H2:=Lib.hid (And.intro k0 (And.intro k1 (And.intro hbw hown)))
        clear hb2 k0 k1 hbw hown))
   have hown2:w2.ownsRow (w.heap.size+2) 94 2 (.slice A1 n1 c1) n1 (dcls X.pd):=by simpa using H2.out.2.2.2
   refine gen1 fun W hbW hkW hsW=>?_
   have hB0:Bk W w.heap.size 47 #[.int .i64 X.aw,.slice A n1 c,.bool X.bd]:=H2.out.1.below hbW hs0
   have hB1:Bk W (w.heap.size+1) 47 #[.int .i64 0,.slice none 0 0,.bool false]:=H2.out.2.1.below hbW hs1
   have hownW:W.ownsRow (w.heap.size+2) 94 2 (.slice A1 n1 c1) n1 (dcls X.pd):=own_below hown2 hbW
   have hbwW:Below w.heap.size w W:=H2.out.2.2.1.trans (hbW.mono (by omega))
   have hne2:some w2.heap.size≠(Value.slice A1 n1 c1).ownBlock:=fun h=>by have:=(hown2.lt _ h.symm).2;omega
   have hne1:some (w.heap.size+1)≠(Value.slice A1 n1 c1).ownBlock:=fun h=>by have:=(hown2.lt _ h.symm).1;omega
   have hne0:some w.heap.size≠(Value.slice A1 n1 c1).ownBlock:=fun h=>by have:=(hown2.lt _ h.symm).1;omega
   have hTl:T.length≤2000000:=by
     rw[HT.out]
     have h1:=txL_len (pcsL S) 900 (fun x hx=>Nat.le_trans (pcsL_tx S x hx) hS)
     have h2:=pcsL_len S
     have:=Nat.mul_le_mul_right 900 (show (pcsL S).length≤1800 by omega)
     omega
   clear y0 y1 y2 y3 y4 y5 x0 x1 x2 x3 x4 x5
   obtain⟨y0,_,_,y3,_,_⟩:=hB0.three
   obtain⟨z0,z1,z2,z3,z4,z5⟩:=hkW.three
   have hlt0:=hB0.lt
   have hlt2:=hkW.lt
   have HW:=Lib.hid (And.intro hB0 (And.intro hB1 (And.intro hkW (And.intro hownW hbwW))))
   have HN:=Lib.hid (And.intro hne0 (And.intro hne1 hne2))
   clear hB0 hB1 hkW hownW hbwW hne0 hne1 hne2 hbW hown2
   generalize hB2:w2.heap.size=B2 at *
   have H2s:=Lib.hid hB2
   clear hB2
   go_region_law (first
     | (go_simp
        go_at_call 81
        refine(bare_m S _ hS).mono ?_
        rintro e w5 ⟨he,hb5⟩
        rw[←HT.out] at he
        subst he
        have k0:Bk w5 w.heap.size 47 #[.int .i64 X.aw,.slice A n1 c,.bool X.bd]:=HW.out.1.drew.below hb5 (by simpa using hlt0)
        have k1:Bk w5 (w.heap.size+1) 47 #[.int .i64 0,.slice none 0 0,.bool false]:=HW.out.2.1.drew.below hb5 (by have:=HW.out.2.1.lt;simpa using this)
        have k2:Bk w5 B2 47 #[.int .i64 0,.slice A1 n1 c1,.bool false]:=HW.out.2.2.1.drew.below hb5 (by simpa using hlt2)
        have ko:w5.ownsRow (w.heap.size+2) 94 2 (.slice A1 n1 c1) n1 (dcls X.pd):=own_below (own_drew HW.out.2.2.2.1) hb5
        have kb:Below w.heap.size w w5:=(below_drewN' HW.out.2.2.2.2 1).trans (hb5.mono (by have:=HW.out.2.2.2.2.size;simpa using this))
        obtain⟨p0,_,_,p3,_,_⟩:=k0.three
        obtain⟨r0,r1,r2,r3,r4,r5⟩:=k2.three
        have l0:=k0.lt
        have l2:=k2.lt
        have H5:=Lib.hid (And.intro k0 (And.intro k1 (And.intro k2 (And.intro ko kb))))
        clear hb5 k0 k1 k2 ko kb)
     | (refine step_append_rd rfl (.tmp 44) (.tmp 51) 45 rfl (w.heap.size+2) 94 i0 _ 2 24 Tryz.underlying45 hi0 hz0 hz1 hz2 rfl (by decide) (.slice A1 n1 c1) n1 (dcls X.pd) (by simp[Act.eval]) (H5.out.2.2.2.1.alloc _) (.slice (some ⟨w5.heap.size,0,none⟩) 1 1) 1 (w5.heap.size+1) (dcls [(T,b5)]) (by simp[Act.eval]) (rd_new w5 (dcls [(T,b5)]) 94 2 1 rfl (by omega)) (one_dcls _) (by unfold maxLen;omega) (by omega) (by have:=H5.out.2.1.lt;simp;omega) ?_
        intro v6 w6 hown6 hg6 hv6
        obtain⟨A6,n6,c6,rfl⟩:=own_form' hown6
        have H6:=Lib.hid (And.intro hown6 (And.intro hg6 hv6))
        have m1:Bk w6 (w.heap.size+1) 47 #[.int .i64 0,.slice none 0 0,.bool false]:=(H5.out.2.1.alloc _).grown hg6 HN.out.2.1
        have m2:Bk w6 B2 47 #[.int .i64 0,.slice A1 n1 c1,.bool false]:=(H5.out.2.2.1.alloc _).grown hg6 HN.out.2.2
        obtain⟨s0,s1,s2,s3,s4,s5⟩:=m2.three
        obtain⟨t0,t1,t2,t3,t4,t5⟩:=m1.three
        have M:=Lib.hid (And.intro m1 m2)
        clear hown6 hg6 hv6 m1 m2))
   all_goals (
     have ne2:(Value.slice A6 n6 c6).ownBlock≠some B2:=by
       rcases H6.out.2.2 with h|h
       ·rw[h];exact fun h=>HN.out.2.2 h.symm
       ·rw[h];simp;omega
     have kb6:Below w.heap.size w w6:=Below.grown (H5.out.2.2.2.2.alloc H5.out.2.2.2.2.size _) H6.out.2.1 (by have:=H5.out.2.2.2.2.size;simp;omega) (fun k hk=>by have:=(H5.out.2.2.2.1.lt k hk).1;omega)
     have kb7:=kb6.setCell (p:=⟨B2,1,none⟩) (show w.heap.size≤B2 by omega) (.slice A6 n6 c6)
     have k17:=M.out.1.far (p:=⟨B2,1,none⟩) (by simp;omega) (.slice A6 n6 c6)
     have ko7:=own_far (p:=⟨B2,1,none⟩) H6.out.1 ne2 (.slice A6 n6 c6)
     have H7:=Lib.hid (And.intro kb7 (And.intro k17 ko7))
     clear kb6 kb7 k17 ko7 ne2
     go_wp2
     obtain⟨kF,hbF,hoF⟩:=fin_l0 (.int .i64 0) (.slice A6 n6 c6) (.bool false) H7.out.2.1 H7.out.1 (by omega) H7.out.2.2 (by omega) _ rfl
     generalize World.setCell _ _ _=W5 at kF hbF hoF ⊢
     obtain⟨q0,q1,q2,_⟩:=kF.three
     refine bodyPost_ret (v:=lxv Y.aw (.slice A6 n6 c6) Y.bd) (by rw[HY.out];simp[results,Tryz.results63,go_sem,lxv,q0,q1,q2]) rfl ⟨_,rfl,⟨_,rfl,?_⟩,hbF⟩
     rw[HY.out]
     have hr:=Rt.of_own hoF
     rw[HV.out.2] at hr
     simpa [dcls_app] using hr)
theorem behind_m (S:List UInt8) (k:Nat) (X:Lx) (A:Option Addr) (n c:Nat) (w:World) (hS:S.length≤900) (hn:n=X.pd.length) (hv:Rt w 94 2 (.slice A n c) n (dcls X.pd)) (hl:n≤10000) (hk:k≤7) :
    Calls Tryz.prog 63 #[.string ⟨S.toArray⟩,.int .i64 (k:Int),lxv X.aw (.slice A n c) X.bd] w fun e w'=>∃v,e=.returned v∧LxP w' (behindL S k X) v∧Below w.heap.size w w':=by
  by_cases h6:k=6
  ·subst h6;exact behind_b S X A n c w hS hn hv hl
  ·exact behind_a S k X A n c w hS hn hv hl ⟨h6,hk⟩
end Go.Proofs.YtlbfdbinaekjoaaGreatDoor
