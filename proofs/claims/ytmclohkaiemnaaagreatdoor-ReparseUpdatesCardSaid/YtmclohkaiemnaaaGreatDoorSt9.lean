/- Delimiters in memory; slices.Clone of them. -/
import Derived.Test.YtmclohkaiemnaaaGreatDoorMo9
import Derived.Test.YtmclohkaiemnaaaGreatDoorLa9
import Derived.Test.YtmclohkaiemnaaaGreatDoorTk9
import Derived.Test.YtmclohkaiemnaaaGreatDoorClose2
set_option linter.unusedVariables false
set_option linter.unusedSimpArgs false
set_option maxRecDepth 100000
set_option maxHeartbeats 8000000
namespace Go.Proofs.YtmclohkaiemnaaaGreatDoor
open Go.RowKit
variable {d:Dl} {r:List Dl} {B n c g o:Nat} {A:Option Addr} {t:TypeId} {y z u:Value} {w:World} (l:List UInt8) (L:List Dl) (x:Nat) (M:List Dl) (T:Tk)
def Og (d:Dl):List Value:=[.string ⟨d.1.toArray⟩,.bool d.2]
def fQ (L:List Dl):List Value:=L.flatMap Og
theorem GE:(fQ L).length=L.length*2:=by
  induction L with
  | nil=>rfl
  | cons x r ih=>simp[fQ,Og] at ih ⊢;omega
theorem GF:fQ (L++M)=fQ L++fQ M:=by simp[fQ]
theorem yg:∀u∈fQ L,u.oneCell'=true:=by
  intro u hu;obtain⟨d,_,hd⟩:=dL.1 hu;simp[Og] at hd;rcases hd with rfl|rfl<;>rfl
theorem Tryz.infoDelim:(Tryz.prog.info? 120).map (fun i=>(i.zero,i.size,i.bytes))=some (some (.agg #[.string ⟨#[]⟩,.bool false]),2,24):=by kernel_rfl
theorem Ew (h:Rd w B 2 (.slice A n c) n (fQ (d::r))) (hn:n=r.length+1) :
    ∃g o,A=some ⟨g,o,none⟩∧g<B∧n≤c∧c≤maxLen∧w.cell? ⟨g,o,none⟩=some (.string ⟨d.1.toArray⟩)∧w.cell? ⟨g,o+1,none⟩=some (.bool d.2):=by
  obtain⟨_,A',c',h2,h3,h4,h5,h6⟩:=h
  cases h2;obtain⟨g,o,rfl,hg,hc⟩:=h6 (by omega);exact⟨g,o,rfl,hg,h3,h4,hc 0 _ rfl,hc 1 _ rfl⟩
theorem IX (h:Rd w B 2 (.slice (some ⟨g,o,none⟩) n c) n (fQ (d::r))) (hn:n=r.length+1) :
    Rd w B 2 (.slice (some ⟨g,o+2,none⟩) (n-1) (c-1)) r.length (fQ r):=by
  obtain⟨_,A',c',h2,h3,h4,h5,h6⟩:=h
  cases h2;obtain⟨g',o',e,hg,hc⟩:=h6 (by omega)
  cases e;refine⟨by rw[GE],some ⟨g,o+2,none⟩,c-1,by rw[show n-1=r.length by omega],by omega,by omega,(fun h=>by cases h),fun _=>⟨g,o+2,rfl,hg,fun j u hj=>?_⟩⟩;rw[show o+2+j=o+(j+2) by omega];exact hc (j+2) u hj
theorem qI (A:Option Addr) (n c:Nat) (w:World) (hn:n=L.length) (h:Rd w w.heap.size 2 (.slice A n c) n (fQ L)) (hl:n≤100000) :
    Calls Tryz.prog 107 #[.slice A n c] w fun e w'=>∃v,e=.returned v∧w'.ownsRow w.heap.size 120 2 v n (fQ L)∧Below w.heap.size w w':=by
  have hnil:=fun (W:World)=>Lib.run_eql_slice_nil (P:=Tryz.prog) W
  cases A with
  | none=>
    obtain⟨h1,A',c',h2,h3,h4,h5,h6⟩:=h
    cases h2;have hc:=h5 rfl;subst hc;obtain rfl:n=0:=by omega
    obtain rfl:L=[]:=bN hn.symm;clear h1 h4 h5 h6 h3 hn hl;go_enter Tryz.func107,Tryz.ntmps107;go_wp2;go_ret;exact⟨_,rfl,⟨rfl,.inl ⟨rfl,rfl⟩⟩,ay _ _⟩
  | some A=>
    obtain⟨i0,hi,hz0,hz1,hz2⟩:=cL Tryz.infoDelim;have H:=ac h;clear h;go_enter Tryz.func107,Tryz.ntmps107
    go_wp2_with (first
      | (at_builtin
         refine gE rfl (.tmp 5) (.tmp 6) 83 rfl w.heap.size 120 i0 _ 2 24 Tryz.underlying83 hi hz0 hz1 hz2 rfl (by decide) (.slice (some ⟨w.heap.size,0,none⟩) 0 0) 0 [] rfl (World.ownsRow_made _ _ _ (au _) (by unfold maxLen;omega) (by simp)) (.slice (some A) n c) n w.heap.size (fQ L) rfl (H.out.keep (by go_grown) (au _)) (yg L) (by unfold maxLen;omega) (by omega) (by simp) ?_;intro v1 w1 hown1 hg1 hv1))
    go_ret;exact⟨v1,rfl,by simpa using hown1,((ay _ _).alloc (au _) _).grown hg1 (by simp) (by intro k hk;simp[Value.ownBlock] at hk;omega)⟩
def sw (t:Tk):Value:=.agg #[.int .i64 (t.kd:Int),.int .i64 (t.fr:Int),.int .i64 (t.to:Int),.bool t.op]
theorem Fi (d:List UInt8):∀n,(ut d n).2≤n
  | 0=>au _
  | n+1=>by unfold ut;split;exact au _;have:=Fi d n;omega
theorem Jn:(jB l x).2≤3:=by
  unfold jB;split
  ·simp
  ·have:=Fi (l.drop x) (min 3 (l.length-x));omega
theorem xY (hT:T=fY l x) :
    (iJ (l.getD x 0)=true∧T=⟨1,x,iz l x,false⟩) ∨
    (iJ (l.getD x 0)=false∧iq l x=true∧T=⟨1,x,iz l x,false⟩) ∨
    (iJ (l.getD x 0)=false∧iq l x=false∧((l.getD x 0).toNat==10)=true∧T=⟨2,x,x+1,false⟩) ∨
    (iJ (l.getD x 0)=false∧iq l x=false∧((l.getD x 0).toNat==10)=false∧((l.getD x 0).toNat==35)=true∧T=⟨3,x,gM l x,false⟩) ∨
    (iJ (l.getD x 0)=false∧iq l x=false∧((l.getD x 0).toNat==10)=false∧((l.getD x 0).toNat==35)=false∧0<(jB l x).2∧T=⟨4,x,x+(jB l x).2,false⟩) ∨
    (iJ (l.getD x 0)=false∧iq l x=false∧((l.getD x 0).toNat==10)=false∧((l.getD x 0).toNat==35)=false∧¬0<(jB l x).2∧mQ l x=true∧0<kC l x∧T=⟨5,x,x+kC l x,false⟩) ∨
    (iJ (l.getD x 0)=false∧iq l x=false∧((l.getD x 0).toNat==10)=false∧((l.getD x 0).toNat==35)=false∧¬0<(jB l x).2∧mQ l x=false∧T=⟨6,x,x+lE l x,!Br (sub l x (x+lE l x))⟩):=by
  unfold fY at hT;generalize l.getD x 0=c at hT ⊢
  cases h1:iJ c
  ·cases h2:iq l x
   ·rw[aC (by rw[h1,h2];simp)] at hT;by_cases h3:c.toNat=10
    ·rw[aB h3] at hT;simp[hT,h3]
    ·rw[aC h3] at hT;by_cases h4:c.toNat=35
     ·rw[aB h4] at hT;simp[hT,h4]
     ·rw[aC h4] at hT;by_cases h5:0<(jB l x).2
      ·rw[aB h5] at hT;simp[hT,h3,h4,h5]
      ·rw[aC h5] at hT
       cases h6:mQ l x
       ·rw[aC (by rw[h6];decide)] at hT;simp[hT,h3,h4,h5]
       ·rw[aB h6] at hT;have h7:0<kC l x:=by unfold mQ at h6;simp at h6;exact h6.1.1
        simp[hT,h3,h4,h5,h7]
   ·rw[aB (.inr h2)] at hT;simp[hT]
  ·rw[aB (.inl h1)] at hT;simp[hT]
theorem Bk.four {x:Value} (h:Bk w g t #[x,y,z,u]):w.cell? ⟨g,0,none⟩=some x∧w.cell? ⟨g,1,none⟩=some y∧w.cell? ⟨g,2,none⟩=some z∧w.cell? ⟨g,3,none⟩=some u∧w.frozen? ⟨g,0,none⟩=false∧w.frozen? ⟨g,1,none⟩=false∧w.frozen? ⟨g,2,none⟩=false∧w.frozen? ⟨g,3,none⟩=false:=
  ⟨by rw[h.cell];rfl,by rw[h.cell];rfl,by rw[h.cell];rfl,by rw[h.cell];rfl,h.frozen 0,h.frozen 1,h.frozen 2,h.frozen 3⟩
theorem xZ (w:World) (hl:l.length≤900) (hx:x<l.length) :
    jJ 89 #[.string ⟨l.toArray⟩,.int .i64 (x:Int)] w (sw (fY l x)):=by
  have u1:(x:Int)<(l.length:Int):=by omega
  have u2:(0:Int)≤(x:Int):=by omega
  have hx0:x≤900:=by omega
  have hl0:l.length≤100000:=by omega
  obtain⟨d,hd⟩:∃d,l[x]? = some d:=⟨_,ax hx⟩;obtain⟨hL1,hL2⟩:=az.1 hd;have hL:∃h:x<(ByteArray.mk l.toArray).size,(ByteArray.mk l.toArray)[x]'h=d:=⟨hL1,hL2⟩;obtain⟨hL3,hL4⟩:=hL;have hg:l.getD x 0=d:=by rw[aF,hd];rfl
  obtain⟨T,hT⟩:∃T,T=fY l x:=⟨_,rfl⟩;have hto:=me l x hx;have hc:=xY l x T hT;rw[←hT] at hto ⊢;rw[hg] at hc;have hop:(jB l x).2≤900:=aA (Jn l x) (by decide);clear hd hL2 hg hT;have t1:(fI d==1)=iJ d:=rN d;have t10:((d.toNat:Int)==10)=(d.toNat==10):=by rw[cT];simp;omega
  have t35:((d.toNat:Int)==35)=(d.toNat==35):=by rw[cT];simp;omega
  obtain⟨o,ho⟩:∃o,o=jB l x:=⟨_,rfl⟩;rw[←ho] at hop hc;have HO:=ac ho;clear ho;rcases hc with ⟨c1,hT⟩|⟨c1,c2,hT⟩|⟨c1,c2,c3,hT⟩|⟨c1,c2,c3,c4,hT⟩|⟨c1,c2,c3,c4,c5,hT⟩|⟨c1,c2,c3,c4,c5,c6,c7,hT⟩|⟨c1,c2,c3,c4,c5,c6,hT⟩
  rotate_right
  ·rw[c1] at t1;rw[c3] at t10;rw[c4] at t35;have hel:=Cc l x;obtain⟨S,hS⟩:∃S,S=sub l x (x+lE l x):=⟨_,rfl⟩;rw[←hS] at hT;have hSl:S.length≤900:=by rw[hS];unfold sub;simp;omega
   obtain⟨E,hE⟩:∃E,E=x+lE l x:=⟨_,rfl⟩;have hext:(ByteArray.mk l.toArray).extract x E=⟨S.toArray⟩:=by rw[fq,hS,hE];rfl
   rw[←hE] at hT hS;have hE1:x≤E:=by omega
   have hE2:E≤l.length:=by omega
   have v1:(x:Int)≤(E:Int):=by omega
   have v2:(E:Int)≤(l.length:Int):=by omega
   obtain⟨C,hC⟩:∃C,C=Oh (iA S S.length).1:=⟨_,rfl⟩;have hsh:Br S=C.isEmpty:=by unfold Br;rw[←hC];cases C<;>simp
   rw[hsh] at hT;have HC:=ac (ae c2 (ae c6 (ae hE (ae hext (ae hSl hC)))));have HT:=ac (ae hT hto);clear hT hto c1 c2 c3 c4 c6 hel hS hSl hE hext hC hsh;go_enter Tryz.func89,Tryz.ntmps89
   go_wp2_with (first
     | (go_at_call 108;refine(Fe l x _ (by omega) hx).mono ?_;rintro e w2 ⟨he,rfl⟩;rw[←HO.out] at he;subst he)
     | (go_at_call 109;refine(uA _ _).mono ?_;rintro e w2 ⟨rfl,rfl⟩)
     | (go_at_call 110;refine(wP l x _ (by omega) (by omega)).mono ?_;rintro e w2 ⟨he,rfl⟩;rw[HC.out.1] at he;subst he)
     | (go_at_call 113;refine(yj l x _ (by omega) (by omega)).mono ?_;rintro e w2 ⟨he,rfl⟩;rw[aC (by rw[HC.out.2.1];decide)] at he;subst he)
     | (go_at_call 114;refine(NP l x _ (by omega) (by omega)).mono ?_;rintro e w2 ⟨he,hb2⟩;rw[←HC.out.2.2.1] at he;subst he;have k0:Bk w2 w.heap.size 92 #[.int .i64 0,.int .i64 0,.int .i64 0,.bool false]:=((Bk.new w _ _).alloc _).below hb2 (by simp<;>omega);have k1:Bk w2 (w.heap.size+1) 92 #[.int .i64 0,.int .i64 (x:Int),.int .i64 ((x:Int)+1),.bool false]:=(fB w _ _ _ _).below hb2 (by simp<;>omega);have hbw:Below w.heap.size w w2:=(((ay _ w).alloc (au _) _).alloc (by simp) _).trans (hb2.mono (by simp<;>omega));have hsz:w.heap.size+2≤w2.heap.size:=by have:=hb2.size;simpa using this
        obtain⟨y0,y1,y2,y3,y4,y5,y6,y7⟩:=k1.four;have H2:=ac (ae k0 (ae k1 hbw));clear hb2 k0 k1 hbw)
     | (go_at_call 115;rw[HC.out.2.2.2.1];refine(Dj S _ HC.out.2.2.2.2.1).mono ?_;rintro e w4 ⟨he,hb4⟩;rw[←HC.out.2.2.2.2.2] at he;subst he;have k0:Bk w4 w.heap.size 92 #[.int .i64 0,.int .i64 0,.int .i64 0,.bool false]:=((H2.out.1.far (p:=⟨w.heap.size+1,0,none⟩) (by simp) _).far (p:=⟨w.heap.size+1,2,none⟩) (by simp) _).below hb4 (by simp[World.setCell]<;>omega);have k1:Bk w4 (w.heap.size+1) 92 #[.int .i64 6,.int .i64 (x:Int),.int .i64 (E:Int),.bool false]:=((H2.out.2.1.set 0 (.int .i64 6)).set 2 (.int .i64 (E:Int))).below hb4 (by simp[World.setCell]<;>omega);have hbw:Below w.heap.size w w4:=((H2.out.2.2.setCell (p:=⟨w.heap.size+1,0,none⟩) (by simp) _).setCell (p:=⟨w.heap.size+1,2,none⟩) (by simp) _).trans (hb4.mono (by simp[World.setCell]<;>omega));have hsz4:w.heap.size+2≤w4.heap.size:=by have:=hb4.size;simp[World.setCell] at this;omega
        obtain⟨z0,z1,z2,z3,z4,z5,z6,z7⟩:=k1.four;obtain⟨x0,x1,x2,x3,x4,x5,x6,x7⟩:=k0.four;have H4:=ac (ae k0 (ae k1 hbw));clear hb4 k0 k1 hbw y0 y1 y2 y3 y4 y5 y6 y7))
   have hb5:=((((H4.out.2.2.setCell (p:=⟨w.heap.size+1,3,none⟩) (by simp) (.bool !C.isEmpty)).setCell (p:=⟨w.heap.size,0,none⟩) (au _) (.int .i64 6)).setCell (p:=⟨w.heap.size,1,none⟩) (au _) (.int .i64 (x:Int))).setCell (p:=⟨w.heap.size,2,none⟩) (au _) (.int .i64 (E:Int))).setCell (p:=⟨w.heap.size,3,none⟩) (au _) (.bool !C.isEmpty);have k5:=((((H4.out.1.far (p:=⟨w.heap.size+1,3,none⟩) (by simp) (.bool !C.isEmpty)).set 0 (.int .i64 6)).set 1 (.int .i64 (x:Int))).set 2 (.int .i64 (E:Int))).set 3 (.bool !C.isEmpty);generalize ((((w4.setCell _ _).setCell _ _).setCell _ _).setCell _ _).setCell _ _=W5 at hb5 k5 ⊢;obtain⟨q0,q1,q2,q3,_⟩:=Bk.four (show Bk W5 w.heap.size 92 #[.int .i64 6,.int .i64 (x:Int),.int .i64 (E:Int),.bool !C.isEmpty] from k5);exact bu (v:=sw T) (by rw[HT.out.1];simp[results,Tryz.results89,go_sem,sw,q0,q1,q2,q3]) rfl ⟨rfl,hb5⟩
  all_goals (
    rw[c1] at t1;try rw[c3] at t10
    try rw[c4] at t35
    first
      | (have HC:=ac (ae c2 c6);clear c2 c6)
      | (have HC:=ac (ae c2 True.intro);clear c2)
      | (have HC:=ac (ae (show iq l x=iq l x from rfl) True.intro))
    have HT:=ac (ae hT hto);clear hT hto c1;try clear c3
    try clear c4
    go_enter Tryz.func89,Tryz.ntmps89
    go_wp2_with (first
      | (go_at_call 108;refine(Fe l x _ (by omega) hx).mono ?_;rintro e w2 ⟨he,rfl⟩;rw[←HO.out] at he;subst he)
      | (go_at_call 109;refine(uA _ _).mono ?_;rintro e w2 ⟨rfl,rfl⟩)
      | (go_at_call 110;refine(wP l x _ (by omega) (by omega)).mono ?_;rintro e w2 ⟨he,rfl⟩;rw[HC.out.1] at he;subst he)
      | (go_at_call 111;refine(Kn l x _ (by omega) (by omega)).mono ?_;rintro e w2 ⟨rfl,rfl⟩)
      | (go_at_call 112;refine(Aw l x _ (by omega) (by omega)).mono ?_;rintro e w2 ⟨rfl,rfl⟩)
      | (go_at_call 113;refine(yj l x _ (by omega) (by omega)).mono ?_;rintro e w2 ⟨he,rfl⟩;rw[aB HC.out.2] at he;subst he))
    refine bu (v:=sw T) (by rw[HT.out.1];simp[results,Tryz.results89,go_sem,sw]) rfl ⟨rfl,by go_grown⟩)
end Go.Proofs.YtmclohkaiemnaaaGreatDoor
