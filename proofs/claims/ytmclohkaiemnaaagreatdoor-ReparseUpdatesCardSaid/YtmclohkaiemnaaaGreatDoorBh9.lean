/- Package token: behind, the lexing behind a token that is in no document. -/
import Derived.Test.YtmclohkaiemnaaaGreatDoorSt9
import Derived.Test.YtmclohkaiemnaaaGreatDoorBv8
set_option linter.unusedVariables false
set_option linter.unusedSimpArgs false
set_option maxRecDepth 100000
set_option maxHeartbeats 8000000
namespace Go.Proofs.YtmclohkaiemnaaaGreatDoor
open Go.RowKit
variable {xs:List Value} {B1 base e:Nat} {t:TypeId} {u0 u1 u2:Value} {w2:World} (S:List UInt8) (k:Nat) (X:Lx) (v0:Value) (A:Option Addr) (v:Value) (n:Nat) (v2:Value) (c:Nat) (o:Obj) (w:World)
def oS (aw:Int) (v:Value) (bd:Bool):Value:=.agg #[.int .i64 aw,v,.bool bd]
def Ia (w:World) (X:Lx) (e:Value):Prop:=∃v,e=oS X.aw v X.bd∧Rt w 120 2 v X.pd.length (fQ X.pd)
theorem Gh {w:World} {n:Nat} (k1:Bk w2 B1 t #[u0,u1,u2]) (hbw:Below w.heap.size w w2) (hB:w.heap.size≤B1) (hown:w2.ownsRow base e 2 v n xs) (hbase:B1<base) :
    ∀W5,W5=((w2.setCell ⟨B1,0,none⟩ v0).setCell ⟨B1,1,none⟩ v).setCell ⟨B1,2,none⟩ v2→Bk W5 B1 t #[v0,v,v2]∧Below w.heap.size w W5∧W5.ownsRow base e 2 v n xs:=by
  rintro W5 rfl;have hne:v.ownBlock≠some B1:=by
    intro h
    have:=(hown.lt B1 h).1
    omega
  exact⟨((k1.set 0 v0).set 1 v).set 2 v2,((hbw.setCell (p:=⟨B1,0,none⟩) hB _).setCell (p:=⟨B1,1,none⟩) hB _).setCell (p:=⟨B1,2,none⟩) hB _,fh (p:=⟨B1,2,none⟩) (fh (p:=⟨B1,1,none⟩) (fh (p:=⟨B1,0,none⟩) hown hne v0) hne v) hne v2⟩
theorem Gg {w:World} {n:Nat} (k1:Bk w2 B1 t #[u0,u1,u2]) (hbw:Below w.heap.size w w2) (hB:w.heap.size≤B1) (hown:w2.ownsRow base e 2 v n xs) (hbase:B1<base) :
    ∀W5,W5=(((w2.setCell ⟨B1,0,none⟩ v0).setCell ⟨B1,1,none⟩ v).setCell ⟨B1,2,none⟩ v2).alloc o→W5.cell? ⟨B1,0,none⟩=some v0∧W5.cell? ⟨B1,1,none⟩=some v∧W5.cell? ⟨B1,2,none⟩=some v2∧Below w.heap.size w W5∧Rt W5 e 2 v n xs:=by
  rintro W5 rfl;obtain⟨k,hb,ho⟩:=Gh v0 v v2 k1 hbw hB hown hbase _ rfl;obtain⟨q0,q1,q2,_⟩:=(k.alloc o).three;exact⟨q0,q1,q2,hb.alloc hb.size _,Rt.of_own (ho.alloc o)⟩
theorem G8 (hS:S.length≤900) (hn:n=X.pd.length) (hv0:Rt w 120 2 (.slice A n c) n (fQ X.pd)) (hl:n≤10000) (hk:k≠6∧k≤7) :
    Calls Tryz.prog 90 #[.string ⟨S.toArray⟩,.int .i64 (k:Int),oS X.aw (.slice A n c) X.bd] w fun e w'=>∃v,e=.returned v∧Ia w' (iQ S k X) v∧Below w.heap.size w w':=by
  have hv:=hv0.rd;clear hv0;have hol:=BN S;unfold oS;obtain⟨o,ho⟩:∃o,o=iR S:=⟨_,rfl⟩;have hB:∀Y,Y=iQ S k X→(k=1∧Y=⟨X.aw,X.pd,false⟩)∨(k=2∧Y=⟨0,X.pd,decide (0<n)⟩)∨(k=4∧o=4∧Y=⟨4,X.pd,false⟩)∨(k=4∧o=5∧Y=⟨5,X.pd,false⟩)∨(k=4∧o≠4∧o≠5∧Y=⟨0,X.pd,false⟩)∨(k≠1∧k≠2∧k≠4∧Y=⟨0,X.pd,false⟩):=by
    intro Y hY;unfold iQ at hY;rw[←ho] at hY;by_cases h1:k=1
    ·rw[aB h1] at hY;exact .inl ⟨h1,hY⟩
    ·rw[aC h1] at hY;by_cases h2:k=2
     ·rw[aB h2] at hY;exact .inr (.inl ⟨h2,by rw[hY,hn];cases X.pd<;>rfl⟩)
     ·rw[aC h2] at hY;by_cases h4:k=4
      ·rw[aB h4] at hY;by_cases o4:o=4
       ·rw[aB (.inl o4),o4] at hY;exact .inr (.inr (.inl ⟨h4,o4,hY⟩))
       ·by_cases o5:o=5
        ·rw[aB (.inr o5),o5] at hY;exact .inr (.inr (.inr (.inl ⟨h4,o5,hY⟩)))
        ·rw[aC (by rintro (h|h);exact o4 h;exact o5 h)] at hY;exact .inr (.inr (.inr (.inr (.inl ⟨h4,o4,o5,hY⟩))))
      ·rw[aC h4,aC hk.1] at hY;exact .inr (.inr (.inr (.inr (.inr ⟨h1,h2,h4,hY⟩))))
  obtain⟨Y,hY⟩:∃Y,Y=iQ S k X:=⟨_,rfl⟩;rw[←hY];have hc:=hB Y hY;have HV:=ac (ae hv (ae hn ho));clear hB hY hv hn ho;have hol:o≤17:=by have:=HV.out.2.2;omega
  rcases hc with ⟨rfl,hY⟩|⟨rfl,hY⟩|⟨rfl,rfl,hY⟩|⟨rfl,rfl,hY⟩|⟨rfl,o4,o5,hY⟩|⟨k1,k2,k4,hY⟩
  all_goals (
    have HY:=ac hY;clear hY
    first
      | (have o4':((o:Int)==4)=false:=by (simp;omega)
         have o5':((o:Int)==5)=false:=by (simp;omega)
         clear o4 o5)
      | (have j1:((k:Int)==1)=false:=by (simp;omega)
         have j2:((k:Int)==2)=false:=by (simp;omega)
         have j4:((k:Int)==4)=false:=by (simp;omega)
         have j6:((k:Int)==6)=false:=by (simp;omega)
         clear k1 k2 k4)
      | skip
    go_enter Tryz.func90,Tryz.ntmps90
    go_wp2_with (first
      | (go_at_call 107;refine(qI X.pd A n c _ HV.out.2.1 ((HV.out.1.keep (by go_grown) (au _)).mono (by simp<;>omega)) (by omega)).mono ?_;rintro e w2 ⟨v1,rfl,hown,hb2⟩;have k0:Bk w2 w.heap.size 85 #[.int .i64 X.aw,.slice A n c,.bool X.bd]:=((Bk.new w _ _).alloc _).below hb2 (by simp<;>omega);have k1:Bk w2 (w.heap.size+1) 85 #[.int .i64 0,.slice none 0 0,.bool false]:=(fB w _ _ _ _).below hb2 (by simp<;>omega);have hbw:Below w.heap.size w w2:=(((ay _ w).alloc (au _) _).alloc (by simp) _).trans (hb2.mono (by simp<;>omega));have hsz:w.heap.size+2≤w2.heap.size:=by have:=hb2.size;simpa using this
         have hs0:w.heap.size<w2.heap.size:=by omega
         have hs1:w.heap.size+1<w2.heap.size:=by omega
         obtain⟨A1,n1,c1,rfl⟩:=eA hown;obtain rfl:=ff hown;obtain⟨y0,y1,y2,y3,y4,y5⟩:=k0.three;obtain⟨x0,x1,x2,x3,x4,x5⟩:=k1.three;have H2:=ac (ae k0 (ae k1 (ae hbw hown)));clear hb2 k0 k1 hbw hown)
      | (go_at_call 95;refine(ws S _ (by omega)).mono ?_;rintro e w3 ⟨he,rfl⟩;rw[←HV.out.2.2] at he;subst he))
    obtain⟨q0,q1,q2,hb5,hr5⟩:=Gg (.int .i64 Y.aw) _ (.bool Y.bd) (.cells #[.int .i64 Y.aw,.slice A1 n1 c1,.bool Y.bd] 85) H2.out.2.1 H2.out.2.2.1 (by omega) H2.out.2.2.2 (by simp<;>omega) _ rfl;rw[HY.out] at q0 q1 q2 hb5 hr5;simp only at q0 q1 q2 hb5 hr5;generalize World.alloc _ _=W5 at q0 q1 q2 hb5 hr5 ⊢;refine bu (v:=oS Y.aw (.slice A1 n1 c1) Y.bd) (by rw[HY.out];simp[results,Tryz.results90,go_sem,oS,q0,q1,q2]) rfl ⟨_,rfl,⟨_,rfl,?_⟩,hb5⟩;rw[HY.out,←HV.out.2.1];exact hr5)
theorem G7 (hS:S.length≤900) (hn:n=X.pd.length) (hv0:Rt w 120 2 (.slice A n c) n (fQ X.pd)) (hl:n≤10000) :
    Calls Tryz.prog 90 #[.string ⟨S.toArray⟩,.int .i64 6,oS X.aw (.slice A n c) X.bd] w fun e w'=>∃v,e=.returned v∧Ia w' (iQ S 6 X) v∧Below w.heap.size w w':=by
  have hv:=hv0.rd;clear hv0;unfold oS;obtain⟨Y,hY⟩:∃Y,Y=iQ S 6 X:=⟨_,rfl⟩;rw[←hY];have HV:=ac (ae hv hn);clear hv hn;by_cases ha:X.aw=0
  ·have j0:(X.aw != 0)=false:=by simpa using ha
   have HY:=ac (show Y=⟨0,X.pd,false⟩ by rw[hY];simp[iQ,ha]);clear hY ha;go_enter Tryz.func90,Tryz.ntmps90
   go_wp2_with (first
     | (go_at_call 107;refine(qI X.pd A n c _ HV.out.2 ((HV.out.1.keep (by go_grown) (au _)).mono (by simp<;>omega)) (by omega)).mono ?_;rintro e w2 ⟨v1,rfl,hown,hb2⟩;have k0:Bk w2 w.heap.size 85 #[.int .i64 X.aw,.slice A n c,.bool X.bd]:=((Bk.new w _ _).alloc _).below hb2 (by simp<;>omega);have k1:Bk w2 (w.heap.size+1) 85 #[.int .i64 0,.slice none 0 0,.bool false]:=(fB w _ _ _ _).below hb2 (by simp<;>omega);have hbw:Below w.heap.size w w2:=(((ay _ w).alloc (au _) _).alloc (by simp) _).trans (hb2.mono (by simp<;>omega));have hsz:w.heap.size+2≤w2.heap.size:=by have:=hb2.size;simpa using this
        have hs0:w.heap.size<w2.heap.size:=by omega
        have hs1:w.heap.size+1<w2.heap.size:=by omega
        obtain⟨A1,n1,c1,rfl⟩:=eA hown;obtain rfl:=ff hown;obtain⟨y0,y1,y2,y3,y4,y5⟩:=k0.three;obtain⟨x0,x1,x2,x3,x4,x5⟩:=k1.three;have H2:=ac (ae k0 (ae k1 (ae hbw hown)));clear hb2 k0 k1 hbw hown))
   obtain⟨q0,q1,q2,hb5,hr5⟩:=Gg (.int .i64 Y.aw) _ (.bool Y.bd) (.cells #[.int .i64 Y.aw,.slice A1 n1 c1,.bool Y.bd] 85) H2.out.2.1 H2.out.2.2.1 (by omega) H2.out.2.2.2 (by simp<;>omega) _ rfl;rw[HY.out] at q0 q1 q2 hb5 hr5;simp only at q0 q1 q2 hb5 hr5;generalize World.alloc _ _=W5 at q0 q1 q2 hb5 hr5 ⊢;refine bu (v:=oS Y.aw (.slice A1 n1 c1) Y.bd) (by rw[HY.out];simp[results,Tryz.results90,go_sem,oS,q0,q1,q2]) rfl ⟨_,rfl,⟨_,rfl,?_⟩,hb5⟩;rw[HY.out,←HV.out.2];exact hr5
  ·have j0:(X.aw != 0)=true:=by simpa using ha
   obtain⟨T,hT⟩:∃T,T=vG (o9 S):=⟨_,rfl⟩;obtain⟨b5,hb5⟩:∃b5,b5=(X.aw==5):=⟨_,rfl⟩;have j5:(X.aw==5)=b5:=hb5.symm;have HY:=ac (show Y=⟨0,X.pd++[(T,b5)],false⟩ by rw[hY,hT,hb5];simp[iQ,ha];rfl);have HT:=ac hT;clear hY ha hT hb5;obtain⟨i0,hi0,hz0,hz1,hz2⟩:=cL Tryz.infoDelim;go_enter Tryz.func90,Tryz.ntmps90
   go_wp2_with (first
     | (go_at_call 107;refine(qI X.pd A n c _ HV.out.2 ((HV.out.1.keep (by go_grown) (au _)).mono (by simp<;>omega)) (by omega)).mono ?_;rintro e w2 ⟨v1,rfl,hown,hb2⟩;have k0:Bk w2 w.heap.size 85 #[.int .i64 X.aw,.slice A n c,.bool X.bd]:=((Bk.new w _ _).alloc _).below hb2 (by simp<;>omega);have k1:Bk w2 (w.heap.size+1) 85 #[.int .i64 0,.slice none 0 0,.bool false]:=(fB w _ _ _ _).below hb2 (by simp<;>omega);have hbw:Below w.heap.size w w2:=(((ay _ w).alloc (au _) _).alloc (by simp) _).trans (hb2.mono (by simp<;>omega));have hsz:w.heap.size+2≤w2.heap.size:=by have:=hb2.size;simpa using this
        have hs0:w.heap.size<w2.heap.size:=by omega
        have hs1:w.heap.size+1<w2.heap.size:=by omega
        obtain⟨A1,n1,c1,rfl⟩:=eA hown;obtain rfl:=ff hown;obtain⟨y0,y1,y2,y3,y4,y5⟩:=k0.three;obtain⟨x0,x1,x2,x3,x4,x5⟩:=k1.three;have H2:=ac (ae k0 (ae k1 (ae hbw hown)));clear hb2 k0 k1 hbw hown))
   have hown2:w2.ownsRow (w.heap.size+2) 120 2 (.slice A1 n1 c1) n1 (fQ X.pd):=by simpa using H2.out.2.2.2
   refine li fun W hbW hkW hsW=>?_
   have hB0:Bk W w.heap.size 85 #[.int .i64 X.aw,.slice A n1 c,.bool X.bd]:=H2.out.1.below hbW hs0;have hB1:Bk W (w.heap.size+1) 85 #[.int .i64 0,.slice none 0 0,.bool false]:=H2.out.2.1.below hbW hs1;have hownW:W.ownsRow (w.heap.size+2) 120 2 (.slice A1 n1 c1) n1 (fQ X.pd):=eC hown2 hbW;have hbwW:Below w.heap.size w W:=H2.out.2.2.1.trans (hbW.mono (by omega));have hne2:some w2.heap.size≠(Value.slice A1 n1 c1).ownBlock:=fun h=>by have:=(hown2.lt _ h.symm).2;omega
   have hne1:some (w.heap.size+1)≠(Value.slice A1 n1 c1).ownBlock:=fun h=>by have:=(hown2.lt _ h.symm).1;omega
   have hne0:some w.heap.size≠(Value.slice A1 n1 c1).ownBlock:=fun h=>by have:=(hown2.lt _ h.symm).1;omega
   have hTl:T.length≤2000000:=by
     rw[HT.out];have h1:=vF (o9 S) 900 (fun x hx=>aA (wh S x hx) hS);have h2:=x8 S
     have:=dG 900 (show (o9 S).length≤1800 by omega)
     omega
   clear y0 y1 y2 y3 y4 y5 x0 x1 x2 x3 x4 x5;obtain⟨y0,_,_,y3,_,_⟩:=hB0.three;obtain⟨z0,z1,z2,z3,z4,z5⟩:=hkW.three;have hlt0:=hB0.lt;have hlt2:=hkW.lt;have HW:=ac (ae hB0 (ae hB1 (ae hkW (ae hownW hbwW))));have HN:=ac (ae hne0 (ae hne1 hne2));clear hB0 hB1 hkW hownW hbwW hne0 hne1 hne2 hbW hown2;generalize hB2:w2.heap.size=B2 at *;have H2s:=ac hB2;clear hB2
   go_region_law (first
     | (go_simp;go_at_call 116;refine(MJ S _ hS).mono ?_;rintro e w5 ⟨he,hb5⟩;rw[←HT.out] at he;subst he;have k0:Bk w5 w.heap.size 85 #[.int .i64 X.aw,.slice A n1 c,.bool X.bd]:=HW.out.1.drew.below hb5 (by simpa using hlt0);have k1:Bk w5 (w.heap.size+1) 85 #[.int .i64 0,.slice none 0 0,.bool false]:=HW.out.2.1.drew.below hb5 (by have:=HW.out.2.1.lt;simpa using this);have k2:Bk w5 B2 85 #[.int .i64 0,.slice A1 n1 c1,.bool false]:=HW.out.2.2.1.drew.below hb5 (by simpa using hlt2);have ko:w5.ownsRow (w.heap.size+2) 120 2 (.slice A1 n1 c1) n1 (fQ X.pd):=eC (gY HW.out.2.2.2.1) hb5;have kb:Below w.heap.size w w5:=(dX HW.out.2.2.2.2 1).trans (hb5.mono (by have:=HW.out.2.2.2.2.size;simpa using this));obtain⟨p0,_,_,p3,_,_⟩:=k0.three;obtain⟨r0,r1,r2,r3,r4,r5⟩:=k2.three;have l0:=k0.lt;have l2:=k2.lt;have H5:=ac (ae k0 (ae k1 (ae k2 (ae ko kb))));clear hb5 k0 k1 k2 ko kb)
     | (refine gr rfl (.tmp 44) (.tmp 51) 83 rfl (w.heap.size+2) 120 i0 _ 2 24 Tryz.underlying83 hi0 hz0 hz1 hz2 rfl (by decide) (.slice A1 n1 c1) n1 (fQ X.pd) (by simp[Act.eval]) (H5.out.2.2.2.1.alloc _) (.slice (some ⟨w5.heap.size,0,none⟩) 1 1) 1 (w5.heap.size+1) (fQ [(T,b5)]) (by simp[Act.eval]) (iK w5 (fQ [(T,b5)]) 120 2 1 rfl (by omega)) (yg _) (by unfold maxLen;omega) (by omega) (by have:=H5.out.2.1.lt;simp;omega) ?_;intro v6 w6 hown6 hg6 hv6;obtain⟨A6,n6,c6,rfl⟩:=eA hown6;have H6:=ac (ae hown6 (ae hg6 hv6));have m1:Bk w6 (w.heap.size+1) 85 #[.int .i64 0,.slice none 0 0,.bool false]:=(H5.out.2.1.alloc _).grown hg6 HN.out.2.1;have m2:Bk w6 B2 85 #[.int .i64 0,.slice A1 n1 c1,.bool false]:=(H5.out.2.2.1.alloc _).grown hg6 HN.out.2.2;obtain⟨s0,s1,s2,s3,s4,s5⟩:=m2.three;obtain⟨t0,t1,t2,t3,t4,t5⟩:=m1.three;have M:=ac (ae m1 m2);clear hown6 hg6 hv6 m1 m2))
   all_goals (
     have ne2:(Value.slice A6 n6 c6).ownBlock≠some B2:=by
       rcases H6.out.2.2 with h|h
       ·rw[h];exact fun h=>HN.out.2.2 h.symm
       ·rw[h];simp;omega
     have kb6:Below w.heap.size w w6:=dV (H5.out.2.2.2.2.alloc H5.out.2.2.2.2.size _) H6.out.2.1 (by have:=H5.out.2.2.2.2.size;simp;omega) (fun k hk=>by have:=(H5.out.2.2.2.1.lt k hk).1;omega);have kb7:=kb6.setCell (p:=⟨B2,1,none⟩) (show w.heap.size≤B2 by omega) (.slice A6 n6 c6);have Of:=M.out.1.far (p:=⟨B2,1,none⟩) (by simp;omega) (.slice A6 n6 c6);have ko7:=fh (p:=⟨B2,1,none⟩) H6.out.1 ne2 (.slice A6 n6 c6);have H7:=ac (ae kb7 (ae Of ko7));clear kb6 kb7 Of ko7 ne2;go_wp2;obtain⟨kF,hbF,hoF⟩:=Gh (.int .i64 0) (.slice A6 n6 c6) (.bool false) H7.out.2.1 H7.out.1 (by omega) H7.out.2.2 (by omega) _ rfl;generalize World.setCell _ _ _=W5 at kF hbF hoF ⊢;obtain⟨q0,q1,q2,_⟩:=kF.three;refine bu (v:=oS Y.aw (.slice A6 n6 c6) Y.bd) (by rw[HY.out];simp[results,Tryz.results90,go_sem,oS,q0,q1,q2]) rfl ⟨_,rfl,⟨_,rfl,?_⟩,hbF⟩;rw[HY.out];have hr:=Rt.of_own hoF;rw[HV.out.2] at hr;simpa [GF] using hr)
theorem G6 (hS:S.length≤900) (hn:n=X.pd.length) (hv:Rt w 120 2 (.slice A n c) n (fQ X.pd)) (hl:n≤10000) (hk:k≤7) :
    Calls Tryz.prog 90 #[.string ⟨S.toArray⟩,.int .i64 (k:Int),oS X.aw (.slice A n c) X.bd] w fun e w'=>∃v,e=.returned v∧Ia w' (iQ S k X) v∧Below w.heap.size w w':=by
  by_cases h6:k=6
  ·subst h6;exact G7 S X A n c w hS hn hv hl
  ·exact G8 S k X A n c w hS hn hv hl ⟨h6,hk⟩
end Go.Proofs.YtmclohkaiemnaaaGreatDoor
