/- What the reference's step holds while a document is added: its boxes, told for the world at hand. -/
import Derived.Test.YtcagfamdoaoimaaGreatDoorSt9
import Derived.Test.YtcagfamdoaoimaaGreatDoorPa0
import Derived.Test.YtcagfamdoaoimaaGreatDoorBv8
import Derived.Test.YtcagfamdoaoimaaGreatDoorPr8
import Derived.Test.YtcagfamdoaoimaaGreatDoorRs9
set_option linter.unusedVariables false
set_option linter.unusedSimpArgs false
set_option maxRecDepth 100000
set_option maxHeartbeats 8000000
namespace Go.Proofs.YtcagfamdoaoimaaGreatDoor
open Go.RowKit
variable {xa:Int} {B2:Nat} {row:Option Nat} {P:Value} {w u u':World} (l:List UInt8) (x:Nat) (X:Lx)
structure RI (w:World) (xa:Int) (P:Value) (B2:Nat) (u:World):Prop where
  k0:Bk u w.heap.size 49 #[.int .i64 xa,P,.bool false]
  k1:Bk u (w.heap.size+1) 54 #[.int .i64 0,.int .i64 0,.int .i64 0,.bool false]
  k2:Bk u (w.heap.size+1+1) 49 #[.int .i64 0,.slice none 0 0,.bool false]
  kB:Bk u B2 49 #[.int .i64 0,P,.bool false]
  kb:Below w.heap.size w u
theorem RI.below (h:RI w xa P B2 u) (hb:Below u.heap.size u u'):RI w xa P B2 u':=
  ⟨h.k0.below hb h.k0.lt,h.k1.below hb h.k1.lt,h.k2.below hb h.k2.lt,h.kB.below hb h.kB.lt,h.kb.trans (hb.mono h.kb.size)⟩
theorem RI.alloc (h:RI w xa P B2 u) (o:Obj):RI w xa P B2 (u.alloc o):=
  ⟨h.k0.alloc o,h.k1.alloc o,h.k2.alloc o,h.kB.alloc o,h.kb.alloc h.kb.size o⟩
theorem RI.drew (h:RI w xa P B2 u):RI w xa P B2 u.drew:=
  ⟨h.k0.drew,h.k1.drew,h.k2.drew,h.kB.drew,dN h.kb 1⟩
theorem RI.grown (h:RI w xa P B2 u) (hB:w.heap.size+1+1<B2) (hg:u.grownBy u' row) (hr:∀k,row=some k→B2<k):RI w xa P B2 u':=
  ⟨h.k0.grown hg (fun e=>by have:=hr _ e.symm;omega),h.k1.grown hg (fun e=>by have:=hr _ e.symm;omega),h.k2.grown hg (fun e=>by have:=hr _ e.symm;omega),h.kB.grown hg (fun e=>by have:=hr _ e.symm;omega),
    cQ h.kb hg h.kb.size (fun k hk=>by have:=hr k hk;omega)⟩
theorem RI.cells (h:RI w xa P B2 u):u.cell? ⟨w.heap.size,0,none⟩=some (.int .i64 xa)∧u.cell? ⟨w.heap.size,1,none⟩=some P∧u.cell? ⟨w.heap.size,2,none⟩=some (.bool false):=
  ⟨by rw[h.k0.cell];rfl,by rw[h.k0.cell];rfl,by rw[h.k0.cell];rfl⟩
theorem mh (w:World) (B:Nat) (e:TypeId) (hB:B≤w.heap.size):(w.alloc (.cells #[] e)).ownsRow B e 2 (.slice (some ⟨w.heap.size,0,none⟩) 0 0) 0 []:=
  ⟨by simp,.inr ⟨w.heap.size,0,#[],rfl,hB,Bk.new _ _ _,au _,by unfold maxLen;omega,by simp,by simp⟩⟩
theorem Mh (w:World) (hl:l.length≤900) :
    jL 108 #[.string ⟨l.toArray⟩] w (.string ⟨(pL (lH l)).toArray⟩):=by
  obtain⟨L,hL⟩:∃L,L=lH l:=⟨_,rfl⟩;have hpl:L.length≤2*l.length:=by rw[hL];exact tO l
  have hx9:∀x∈L,x.tx.length≤900:=fun x hx=>aA (sS l x (by rw[←hL];exact hx)) hl
  have hT:∀k,(pL (L.take k)).length≤2000000:=fun k=>by have:=Ea L k 900 hx9;have:=dh 900 (show L.length≤1800 by omega);omega
  rw[←hL];have HL:=aa (ac hL (ac hx9 hT));clear hL hx9 hT;go_enter Tryz.func108,Tryz.ntmps108;go_wp2_with (
    (go_at_call 141;refine(FC l _ hl L (by rw[HL.out.1,Lu])).mono ?_;rintro e w3 ⟨v,rfl,ho,hb3⟩;obtain⟨A,n3,c,rfl⟩:=dR ho;obtain rfl:=ei ho;have H3:=aa (ac ho hb3);clear ho hb3))
  go_loopw [5,4] (fun i s wr=>∃k:Nat,k≤L.length∧i=.int .i64 k∧s=.string ⟨(pL (L.take k)).toArray⟩∧Below w3.heap.size w3 wr) (fun i _ _=>L.length-(intOf i).toNat)
  case atStart=>exact⟨0,by omega,rfl,rfl,aC _ _⟩
  case round=>
    obtain⟨k,hk,rfl,rfl,hb⟩:=hrel;by_cases hlt:k<L.length
    ·have u1:(k:Int)<(L.length:Int):=by omega
     have u2:(0:Int)≤(k:Int):=by omega
     obtain⟨x,hx⟩:∃x,L[k]? = some x:=⟨_,ax hlt⟩;obtain⟨g,o,rfl,_,y0,y1,y2⟩:=Kq (Rd.of_own (dS H3.out.1 hb)) hx rfl;obtain⟨T,hT⟩:∃T,T=pL (L.take k):=⟨_,rfl⟩;have hTl:T.length≤2000000:=by rw[hT];exact HL.out.2.2 k
     have hxl:=HL.out.2.1 x (aO hx);have e1:=Eb hx;rw[←hT] at e1 ⊢;have hcat:ByteArray.mk T.toArray++ByteArray.mk x.tx.toArray=⟨(T++x.tx).toArray⟩:=gY _ _;have hclen:¬9223372036854775807<T.length+x.tx.length:=by omega
     have HB:=aa (ac hb e1);clear hb hx e1 hT;go_wp2_with fail;exact⟨⟨k+1,by omega,by go_num,by rw[HB.out.2],HB.out.1⟩,by simp[intOf];omega⟩
    ·obtain rfl:k=L.length:=by omega
     rw[bR (au _)];have HB:=aa hb;clear hb;go_wp2_with fail;go_ret;exact⟨rfl,H3.out.2.trans (HB.out.mono H3.out.2.size)⟩
theorem xZ (hl:l.length≤900) (hx:x<l.length) (hbd:X.bd=false) (hnb:fF l x=x) (h10:(l.getD x 0).toNat≠10) (h35:(l.getD x 0).toNat≠35) (hop:(fp l x).2=0) (hnum:mq l x=false) (haw:X.aw≠0):lT l x X ⟨6,x,x+js l x,!lK (sub l x (x+js l x))⟩ ⟨0,X.pd++[(pL (lH (sub l x (x+js l x))),decide (X.aw=5))],false⟩:=by
  obtain⟨i0,hi0,hz0,hz1,hz2⟩:=cD Tryz.infoDelim;have hbc:∀W,iG 105 #[.string ⟨l.toArray⟩,.int .i64 (x:Int)] W (.int .i64 (x:Int)):=fun W=>by
    have h:=jW l x W (by omega) (by omega)
    rwa [hnb] at h
  obtain⟨g1,g2⟩:=jz l x hx;obtain⟨cc,hcc⟩:∃cc,cc=l.getD x 0:=⟨_,rfl⟩;rw[←hcc] at g2 h10 h35;have u1:(x:Int)<(l.length:Int):=by omega
  have u2:(0:Int)≤(x:Int):=by omega
  have b1:((cc.toNat:Int)==10)=false:=by rw[az];omega
  have b2:((cc.toNat:Int)==35)=false:=by rw[az];omega
  have hoc:∀W,iG 106 #[.string ⟨l.toArray⟩,.int .i64 (x:Int)] W (.int .i64 0):=fun W=>by
    obtain⟨hs1,hs2,hs3⟩:=oC l x hx;have h17:(fp l x).1≤17:=by rw[←hs1];exact jI _ _
    have h0:(fp l x).1=0:=by
      rw[hop] at hs2;by_cases h:(fp l x).1=0
      ·exact h
      ·exfalso
       have:((List.range 17).all fun k=>decide (0<(gO (k+1)).length))=true:=by decide
       have h1:=bS.1 this ((fp l x).1-1) (cI.2 (by omega));rw[show (fp l x).1-1+1=(fp l x).1 by omega,hs2] at h1;simp at h1
    have h:=tT l x W (by omega) (by omega)
    rwa [hs1,h0] at h
  obtain⟨D,hD⟩:∃D,D=l8 l x:=⟨_,rfl⟩;have hDl:D≤l.length-x:=by rw[hD];exact iJ gz l x
  have hn3:D=0∨x+D=l.length∨(x+D<l.length∧(l.getD (x+D) 0).toNat≠60∧(l.getD (x+D) 0).toNat≠62):=by
    unfold mq at hnum;rw[←hD] at hnum;by_cases h1:D=0
    ·exact .inl h1
    ·by_cases h2:x+D<l.length
     ·refine .inr (.inr ⟨h2,fun h=>?_,fun h=>?_⟩)
      ·rw[aG (by omega:0<D),aG h2,h] at hnum;cases hnum
      ·rw[aG (by omega:0<D),aG h2,h] at hnum;cases hnum
     ·exact .inr (.inl (by omega))
  have hel:=tf l x;have hen:∀W,jL 107 #[.string ⟨l.toArray⟩,.int .i64 (x:Int)] W (.int .i64 ((x+js l x:Nat):Int)):=fun W=>EP l x W hl (by omega)
  obtain⟨E,hE⟩:∃E,E=x+js l x:=⟨_,rfl⟩;rw[←hE] at hen ⊢;have hxE:x≤E:=by omega
  have hEl:E≤l.length:=by omega
  have hsh:∀W,jL 109 #[.string ((ByteArray.mk l.toArray).extract x E)] W (.bool (lK (sub l x E))):=fun W=>by
    rw[dX];exact Ey (sub l x E) W (by rw[lJ hEl];omega)
  have hba:∀W,jL 108 #[.string ((ByteArray.mk l.toArray).extract x E)] W (.string ⟨(pL (lH (sub l x E))).toArray⟩):=fun W=>by
    rw[dX];exact Mh (sub l x E) W (by rw[lJ hEl];omega)
  obtain⟨T,hT⟩:∃T,T=pL (lH (sub l x E)):=⟨_,rfl⟩;rw[←hT] at hba ⊢;clear hT;obtain⟨R,hR⟩:∃R,R=lK (sub l x E):=⟨_,rfl⟩;rw[←hR] at hsh ⊢;have HN3:=aa hn3;have HD0:=aa hD;clear hD hnum hn3 hcc hnb hop hE hR hel;intro A c w hr hn2;unfold ik;obtain⟨xa,L,xb⟩:=X;obtain rfl:xb=false:=hbd;have haw:¬xa=0:=haw;have hr:Rt w 124 2 (.slice A L.length c) L.length (fj L):=hr;have hn2:L.length≤10000:=hn2;go_enter Tryz.func60,Tryz.ntmps60;go_wp2_with fail;have HRD:=aa hr.rd;obtain⟨W,hW,hw6,⟨⟨p0,p1,p2,p3,p4,p5⟩,⟨q0,q1,q2,q3,q4,q5,q6,q7⟩,⟨r0,r1,r2,r3,r4,r5⟩⟩,a1,a2,a3,a4,a5,a6⟩:=iZ w xa false hr;rw[←hW];have HW:=aa hw6;clear hW hw6 hr;have HC:=aa hbc;have HO:=aa hoc;have HEN:=aa hen;have HSH:=aa hsh;have HBA:=aa hba;have HB2:Hid (w.heap.size+1+1<W.heap.size):=aa (by have:=HW.out.2.2.2.2.1;omega);clear hbc hoc hen hsh hba;have aw1:(xa==0)=false:=by simpa using haw
  have aw2:(xa != 0)=true:=by simpa using haw
  have g1':(x:Int)≤(E:Int):=by omega
  have g2':(E:Int)≤(l.length:Int):=by omega
  go_upto_region 17 with (
    (go_at_call 105;with_reducible refine(HC.out _).mono ?_
     rintro e w' ⟨rfl,rfl⟩))
  refine ki fun WB hbB hkB hsB=>?_
  clear p0 p1 p2 p3 p4 p5 q0 q1 q2 q3 q4 q5 q6 q7 r0 r1 r2 r3 r4 r5;obtain⟨hb6,⟨⟨p0,p1,p2,p3,p4,p5⟩,⟨q0,q1,q2,q3,q4,q5,q6,q7⟩,⟨r0,r1,r2,r3,r4,r5⟩⟩,⟨v0,v1,v2,v3,v4,v5⟩,a7,a8,a9,a10,a11,a12⟩:=ou HW.out hbB hkB;have HB:=aa hb6;clear hb6 hkB hbB;go_wp2_with (
    (go_at_call 106;with_reducible refine(HO.out _).mono ?_
     rintro e w' ⟨rfl,rfl⟩))
  go_loop [14] (fun s=>∃k:Nat,x≤k∧k≤l.length∧s=.int .i64 (k:Int)∧∀j,x≤j→j<k→gz (l.getD j 0)=true) (fun s=>l.length-(intOf s).toNat)
  case atStart=>exact⟨x,au _,by omega,rfl,fun j h1 h2=>by omega⟩
  case round=>
    obtain⟨k,hxk,hkl,rfl,hno⟩:=hrel;by_cases hlt:k<l.length
    ·obtain⟨i1,i2⟩:=jz l k hlt;obtain⟨d,hd⟩:∃d,d=l.getD k 0:=⟨_,rfl⟩;rw[←hd] at i2;have e1:(k:Int)<(l.length:Int):=by omega
     have e2:(0:Int)≤(k:Int):=by omega
     cases hdig:gz d
     ·have e3:(eT d==6)=false:=hdig;have hkD:k=x+D:=by
        have:l8 l x=k-x:=om gz l x (k-x) (fun j hj=>hno _ (by omega) (by omega)) (by omega) (by rw[show x+(k-x)=k by omega,←hd];exact hdig)
        rw[HD0.out,this];omega
      clear hno hdig;have hw:(decide (x<k)=false∧decide ((x:Int)<(k:Int))=false)∨(decide (x<k)=true∧decide ((x:Int)<(k:Int))=true∧((d.toNat:Int)==60)=false∧((d.toNat:Int)==62)=false):=by
        by_cases h:x<k
        ·refine .inr ⟨aG h,aG (by omega),?_,?_⟩
         ·rw[az];intro hh;rcases HN3.out with h1|h1|⟨h1,h2,h3⟩
          ·omega
          ·omega
          ·rw[←hkD,←hd] at h2;omega
         ·rw[az];intro hh;rcases HN3.out with h1|h1|⟨h1,h2,h3⟩
          ·omega
          ·omega
          ·rw[←hkD,←hd] at h3;omega
        ·exact .inl ⟨aL h,aL (by omega)⟩
      clear hkD hd;rcases hw with ⟨f1,f2⟩|⟨f1,f2,f3,f4⟩
      all_goals (
        go_upto_region 30 with (first
            | (go_at_call 85;refine(gK d _).mono ?_;rintro e w' ⟨rfl,rfl⟩)
            | (go_at_call 107;with_reducible refine(HEN.out _).mono ?_
               rintro e w5 ⟨rfl,hb5⟩;have k0:=HB.out.1.below hb5 HB.out.1.lt;have k1:=HB.out.2.1.below hb5 HB.out.2.1.lt;have k2:=HB.out.2.2.1.below hb5 HB.out.2.2.1.lt;have kb:=HB.out.2.2.2.1.trans (hb5.mono HB.out.2.2.2.1.size);have kB:=HB.out.2.2.2.2.1.below hb5 HB.out.2.2.2.2.1.lt;have kr:=HB.out.2.2.2.2.2.next hb5;clear p0 p1 p2 p3 p4 p5 q0 q1 q2 q3 q4 q5 q6 q7 r0 r1 r2 r3 r4 r5 v0 v1 v2 v3 v4 v5;obtain⟨p0,p1,p2,p3,p4,p5⟩:=k0.three;obtain⟨q0,q1,q2,q3,q4,q5,q6,q7⟩:=k1.four;obtain⟨r0,r1,r2,r3,r4,r5⟩:=k2.three;obtain⟨v0,v1,v2,v3,v4,v5⟩:=kB.three;have HI:Hid (RI w xa (.slice A L.length c) W.heap.size w5):=aa ⟨k0,k1,k2,kB,kb⟩;have H5k:Hid (W.heap.size<w5.heap.size):=aa kB.lt;clear hb5 k0 k1 k2 kb kB kr q0 q1 q2 q3 q4 q5 q6 q7 r0 r1 r2 r3 r4 r5 v0 v1 v2 v3 v4 v5))
        go_region_held3 (fun w'=>w'.cell? ⟨w.heap.size,0,none⟩=some (.int .i64 xa)∧w'.cell? ⟨w.heap.size,1,none⟩=some (.slice A L.length c)∧w'.cell? ⟨w.heap.size,2,none⟩=some (.bool false))
            (first
              | with_reducible exact⟨p0,p1,p2⟩
              | go_keep)
            (first
              | (go_at_call 108;with_reducible refine(HBA.out _).mono ?_
                 rintro e w6 ⟨rfl,hb6⟩;have HJ:RI w xa (.slice A L.length c) W.heap.size w6:=by first|exact HI.out.below hb6|exact HI.out.drew.below hb6|exact(HI.out.alloc _).drew.below hb6|exact(HI.out.alloc _).below hb6
                 first
                   | have HO:=aa (dS HO.out hb6)
                   | have HO:=aa (dS (fy (mh w5 (W.heap.size+1) 124 (by have:=HI.out.kB.lt;omega))) hb6)
                   | skip
                 clear p0 p1 p2;obtain⟨p0,p1,p2⟩:=HJ.cells;have HI:=aa HJ;clear HJ hb6)
              | (first
                   | refine dV rfl (.tmp 166) (.tmp 168) 47 rfl (W.heap.size+1) 124 i0 _ 2 24 Tryz.underlying47 hi0 hz0 hz1 hz2 rfl (by decide) (.slice (some ⟨w5.heap.size,0,none⟩) 0 0) 0 [] (by simp[Act.eval]) HO.out (.slice A L.length c) L.length w.heap.size (fj L) (by simp[Act.eval]) (HRD.out.keep HI.out.kb (au _)) (iw _) (by unfold maxLen;omega) (by omega) (by have:=HI.out.kB.lt;omega) ?_
                   | refine dV rfl (.tmp 166) (.tmp 168) 47 rfl (W.heap.size+1) 124 i0 _ 2 24 Tryz.underlying47 hi0 hz0 hz1 hz2 rfl (by decide) (.slice (some ⟨w6.heap.size,0,none⟩) 0 0) 0 [] (by simp[Act.eval]) (mh w6 (W.heap.size+1) 124 (by have:=HI.out.kB.lt;omega)) (.slice A L.length c) L.length w.heap.size (fj L) (by simp[Act.eval]) (HRD.out.keep (HI.out.alloc _).kb (au _)) (iw _) (by unfold maxLen;omega) (by omega) (by have:=HI.out.kB.lt;simp;omega) ?_
                   | refine dV rfl (.tmp 166) (.tmp 168) 47 rfl (W.heap.size+1) 124 i0 _ 2 24 Tryz.underlying47 hi0 hz0 hz1 hz2 rfl (by decide) (.slice (some ⟨w5.heap.size,0,none⟩) 0 0) 0 [] (by simp[Act.eval]) (fy (mh w5 (W.heap.size+1) 124 (by have:=HI.out.kB.lt;omega))) (.slice A L.length c) L.length w.heap.size (fj L) (by simp[Act.eval]) (HRD.out.keep (HI.out.alloc _).drew.kb (au _)) (iw _) (by unfold maxLen;omega) (by omega) (by have:=HI.out.kB.lt;simp;omega) ?_
                 intro v7 w7 hown7 hg7 hv7;have hrow:∀k,(Value.ownBlock (.slice (some ⟨w5.heap.size,0,none⟩) 0 0))=some k→W.heap.size<k:=fun k hk=>by have:=H5k.out;simp[Value.ownBlock] at hk;omega
                 have HJ:RI w xa (.slice A L.length c) W.heap.size w7:=by
                   first
                     | exact HI.out.grown HB2.out hg7 (fun k hk=>by have:=H5k.out;simp[Value.ownBlock] at hk;omega)
                     | exact(HI.out.alloc _).grown HB2.out hg7 (fun k hk=>by have:=HI.out.kB.lt;simp[Value.ownBlock] at hk;omega)
                     | exact(HI.out.alloc _).drew.grown HB2.out hg7 (fun k hk=>by have:=HI.out.kB.lt;simp[Value.ownBlock] at hk;omega)
                 rw[cM,bT] at hown7;obtain⟨A7,n7,c7,rfl⟩:=dR hown7;obtain rfl:=ei hown7;have HO:=aa hown7;clear p0 p1 p2 hown7 hg7 hv7 hrow;obtain⟨p0,p1,p2⟩:=HJ.cells;have HI:=aa HJ;clear HJ)
              | (refine dV rfl (.tmp 169) (.tmp 176) 47 rfl (W.heap.size+1) 124 i0 _ 2 24 Tryz.underlying47 hi0 hz0 hz1 hz2 rfl (by decide) (.slice A7 L.length c7) L.length (fj L) (by simp[Act.eval]) (HO.out.alloc _) (.slice (some ⟨w7.heap.size,0,none⟩) 1 1) 1 (w7.heap.size+1) (fj [(T,decide (xa=5))]) (by simp[Act.eval]) (fQ _ (fj [(T,decide (xa=5))]) 124 2 1 rfl (by omega)) (iw _) (by unfold maxLen;omega) (by omega) (by have:=HI.out.kB.lt;simp;omega) ?_;intro v8 w8 hown8 hg8 hv8;have HJ:RI w xa (.slice A L.length c) W.heap.size w8:=(HI.out.alloc _).grown HB2.out hg8 (fun k hk=>by have:=(HO.out.lt k hk).1;omega);obtain⟨A8,n8,c8,rfl⟩:=dR hown8;obtain rfl:=ei hown8;have HO8:=aa hown8;clear p0 p1 p2 hown8 hg8 hv8;obtain⟨p0,p1,p2⟩:=HJ.cells;have j1:w8.cell? ⟨W.heap.size,1,none⟩=some (.slice A L.length c):=by rw[HJ.kB.cell];rfl
                 have j2:w8.frozen? ⟨W.heap.size,1,none⟩=false:=HJ.kB.frozen 1;have HI:=aa HJ;clear HJ)
              | (refine dV rfl (.tmp 169) (.tmp 176) 47 rfl (W.heap.size+1) 124 i0 _ 2 24 Tryz.underlying47 hi0 hz0 hz1 hz2 rfl (by decide) (.slice A7 L.length c7) L.length (fj L) (by simp[Act.eval]) (HO.out.alloc _) (.slice (some ⟨w6.heap.size,0,none⟩) 1 1) 1 (w6.heap.size+1) (fj [(T,decide (xa=5))]) (by simp[Act.eval]) (fQ _ (fj [(T,decide (xa=5))]) 124 2 1 rfl (by omega)) (iw _) (by unfold maxLen;omega) (by omega) (by have:=HI.out.kB.lt;simp;omega) ?_;intro v8 w8 hown8 hg8 hv8;have HJ:RI w xa (.slice A L.length c) W.heap.size w8:=(HI.out.alloc _).grown HB2.out hg8 (fun k hk=>by have:=(HO.out.lt k hk).1;omega);obtain⟨A8,n8,c8,rfl⟩:=dR hown8;obtain rfl:=ei hown8;have HO8:=aa hown8;clear p0 p1 p2 hown8 hg8 hv8;obtain⟨p0,p1,p2⟩:=HJ.cells;have j1:w8.cell? ⟨W.heap.size,1,none⟩=some (.slice A L.length c):=by rw[HJ.kB.cell];rfl
                 have j2:w8.frozen? ⟨W.heap.size,1,none⟩=false:=HJ.kB.frozen 1;have HI:=aa HJ;clear HJ))
        all_goals (
          have hne8:(Value.slice A8 (L.length+1) c8).ownBlock≠some W.heap.size:=fun h=>by have:=(HO8.out.lt _ h).1;omega
          have z1:=HI.out.k1.far (p:=⟨W.heap.size,1,none⟩) (by have:=HB2.out;show w.heap.size+1≠W.heap.size;omega) (.slice A8 (L.length+1) c8);have z2:=HI.out.k2.far (p:=⟨W.heap.size,1,none⟩) (by have:=HB2.out;show w.heap.size+1+1≠W.heap.size;omega) (.slice A8 (L.length+1) c8);have zb:=HI.out.kb.setCell (p:=⟨W.heap.size,1,none⟩) (by have:=HB2.out;show w.heap.size≤W.heap.size;omega) (.slice A8 (L.length+1) c8);have zk:=HI.out.kB.set 1 (.slice A8 (L.length+1) c8);have zo:=ff (p:=⟨W.heap.size,1,none⟩) HO8.out hne8 (.slice A8 (L.length+1) c8);generalize World.setCell _ _ _=WC at z1 z2 zb zk zo ⊢;have zk:Bk WC W.heap.size 49 #[.int .i64 0,.slice A8 (L.length+1) c8,.bool false]:=zk;clear p0 p1 p2 j1 j2 hne8;obtain⟨q0,q1,q2,q3,q4,q5,q6,q7⟩:=z1.four;obtain⟨r0,r1,r2,r3,r4,r5⟩:=z2.three;obtain⟨v0,v1,v2,v3,v4,v5⟩:=zk.three;have HZ:=aa (ac z1 (ac z2 (ac zb (ac zk zo))));clear z1 z2 zb zk zo;go_upto_region 31 with fail
          go_region_held3 (fun w'=>w'.cell? ⟨W.heap.size,0,none⟩=some (.int .i64 0)∧w'.cell? ⟨W.heap.size,1,none⟩=some (.slice A8 (L.length+1) c8)∧w'.cell? ⟨W.heap.size,2,none⟩=some (.bool false))
            (first
              | with_reducible exact⟨v0,v1,v2⟩
              | go_keep)
            ((go_at_call 109;with_reducible refine(HSH.out _).mono ?_
              rintro e w9 ⟨rfl,hb9⟩;have hb9:Below WC.heap.size WC w9:=by first|exact hb9|exact(dN (aC _ WC) 1).trans hb9
              have z1:=HZ.out.1.below hb9 HZ.out.1.lt;have z2:=HZ.out.2.1.below hb9 HZ.out.2.1.lt;have zb:=HZ.out.2.2.1.trans (hb9.mono HZ.out.2.2.1.size);have zk:=HZ.out.2.2.2.1.below hb9 HZ.out.2.2.2.1.lt;have zo:=dS HZ.out.2.2.2.2 hb9;clear q0 q1 q2 q3 q4 q5 q6 q7 r0 r1 r2 r3 r4 r5 v0 v1 v2 v3 v4 v5;obtain⟨q0,q1,q2,q3,q4,q5,q6,q7⟩:=z1.four;obtain⟨r0,r1,r2,r3,r4,r5⟩:=z2.three;obtain⟨v0,v1,v2,v3,v4,v5⟩:=zk.three;have H6:=aa (ac trivial (ac z1 (ac z2 (ac zb zo))));clear hb9 z1 z2 zb zk zo))
          all_goals (
            obtain⟨m1,m2,mb,mo⟩:=iB (.int .i64 6) (.int .i64 (x:Int)) (.int .i64 (E:Int)) (.bool (!R)) (.int .i64 0) (.slice A8 (L.length+1) c8) (.bool false) H6.out.2.1 H6.out.2.2.1 (by omega) H6.out.2.2.2.1 (by omega) (by omega) _ rfl;have mo:=mo (Rt.of_own H6.out.2.2.2.2) (by decide) (by decide);generalize World.setCell _ _ _=W5 at m1 m2 mb mo ⊢;obtain⟨s0,s1,s2,s3,_⟩:=m1.four;obtain⟨t0,t1,t2,_⟩:=m2.three;try go_wp2
            refine aK (v:=.tuple #[jQ ⟨6,x,E,!R⟩,ik (⟨0,L++[(T,decide (xa=5))],false⟩:Lx).aw (.slice A8 (L.length+1) c8) (⟨0,L++[(T,decide (xa=5))],false⟩:Lx).bd]) (by simp[results,Tryz.results60,go_sem,ik,jQ,s0,s1,s2,s3,t0,t1,t2]) rfl ?_;exact⟨_,rfl,⟨_,rfl,by simpa [uA] using mo⟩,by first|exact mb|exact dN mb 1⟩)))
     ·have e3:(eT d==6)=true:=hdig;have hno2:∀j,x≤j→j<k+1→gz (l.getD j 0)=true:=fun j h1 h2=>by
        by_cases e:j=k
        ·subst e;rw[←hd];exact hdig
        ·exact hno j h1 (by omega)
      have HN:=aa hno2;clear hno hno2 hd hdig;go_wp2_with (
        (go_at_call 85;refine(gK d _).mono ?_;rintro e w' ⟨rfl,rfl⟩))
      exact⟨⟨k+1,by omega,by omega,by go_num,HN.out⟩,by simp[intOf]<;>omega⟩
    ·obtain rfl:k=l.length:=by omega
     have hkD:l.length=x+D:=by
       rcases bZ (x+D) l.length with h|h
       ·have h2:=oo gz l x (by have:=HD0.out;show x+l8 l x<_;omega);rw[show fN gz l x=D from HD0.out.symm,hno _ (by omega) h] at h2
        cases h2
       ·omega
     clear hno;have f1:decide (x<l.length)=true:=aG hx;have f2:decide ((x:Int)<(l.length:Int))=true:=aG u1;clear hkD
     go_upto_region 30 with (first
         | (go_at_call 85;refine(gK d _).mono ?_;rintro e w' ⟨rfl,rfl⟩)
         | (go_at_call 107;with_reducible refine(HEN.out _).mono ?_
            rintro e w5 ⟨rfl,hb5⟩;have k0:=HB.out.1.below hb5 HB.out.1.lt;have k1:=HB.out.2.1.below hb5 HB.out.2.1.lt;have k2:=HB.out.2.2.1.below hb5 HB.out.2.2.1.lt;have kb:=HB.out.2.2.2.1.trans (hb5.mono HB.out.2.2.2.1.size);have kB:=HB.out.2.2.2.2.1.below hb5 HB.out.2.2.2.2.1.lt;have kr:=HB.out.2.2.2.2.2.next hb5;clear p0 p1 p2 p3 p4 p5 q0 q1 q2 q3 q4 q5 q6 q7 r0 r1 r2 r3 r4 r5 v0 v1 v2 v3 v4 v5;obtain⟨p0,p1,p2,p3,p4,p5⟩:=k0.three;obtain⟨q0,q1,q2,q3,q4,q5,q6,q7⟩:=k1.four;obtain⟨r0,r1,r2,r3,r4,r5⟩:=k2.three;obtain⟨v0,v1,v2,v3,v4,v5⟩:=kB.three;have HI:Hid (RI w xa (.slice A L.length c) W.heap.size w5):=aa ⟨k0,k1,k2,kB,kb⟩;have H5k:Hid (W.heap.size<w5.heap.size):=aa kB.lt;clear hb5 k0 k1 k2 kb kB kr q0 q1 q2 q3 q4 q5 q6 q7 r0 r1 r2 r3 r4 r5 v0 v1 v2 v3 v4 v5))
     go_region_held3 (fun w'=>w'.cell? ⟨w.heap.size,0,none⟩=some (.int .i64 xa)∧w'.cell? ⟨w.heap.size,1,none⟩=some (.slice A L.length c)∧w'.cell? ⟨w.heap.size,2,none⟩=some (.bool false))
         (first
           | with_reducible exact⟨p0,p1,p2⟩
           | go_keep)
         (first
           | (go_at_call 108;with_reducible refine(HBA.out _).mono ?_
              rintro e w6 ⟨rfl,hb6⟩;have HJ:RI w xa (.slice A L.length c) W.heap.size w6:=by first|exact HI.out.below hb6|exact HI.out.drew.below hb6|exact(HI.out.alloc _).drew.below hb6|exact(HI.out.alloc _).below hb6
              first
                | have HO:=aa (dS HO.out hb6)
                | have HO:=aa (dS (fy (mh w5 (W.heap.size+1) 124 (by have:=HI.out.kB.lt;omega))) hb6)
                | skip
              clear p0 p1 p2;obtain⟨p0,p1,p2⟩:=HJ.cells;have HI:=aa HJ;clear HJ hb6)
           | (first
                | refine dV rfl (.tmp 166) (.tmp 168) 47 rfl (W.heap.size+1) 124 i0 _ 2 24 Tryz.underlying47 hi0 hz0 hz1 hz2 rfl (by decide) (.slice (some ⟨w5.heap.size,0,none⟩) 0 0) 0 [] (by simp[Act.eval]) HO.out (.slice A L.length c) L.length w.heap.size (fj L) (by simp[Act.eval]) (HRD.out.keep HI.out.kb (au _)) (iw _) (by unfold maxLen;omega) (by omega) (by have:=HI.out.kB.lt;omega) ?_
                | refine dV rfl (.tmp 166) (.tmp 168) 47 rfl (W.heap.size+1) 124 i0 _ 2 24 Tryz.underlying47 hi0 hz0 hz1 hz2 rfl (by decide) (.slice (some ⟨w6.heap.size,0,none⟩) 0 0) 0 [] (by simp[Act.eval]) (mh w6 (W.heap.size+1) 124 (by have:=HI.out.kB.lt;omega)) (.slice A L.length c) L.length w.heap.size (fj L) (by simp[Act.eval]) (HRD.out.keep (HI.out.alloc _).kb (au _)) (iw _) (by unfold maxLen;omega) (by omega) (by have:=HI.out.kB.lt;simp;omega) ?_
                | refine dV rfl (.tmp 166) (.tmp 168) 47 rfl (W.heap.size+1) 124 i0 _ 2 24 Tryz.underlying47 hi0 hz0 hz1 hz2 rfl (by decide) (.slice (some ⟨w5.heap.size,0,none⟩) 0 0) 0 [] (by simp[Act.eval]) (fy (mh w5 (W.heap.size+1) 124 (by have:=HI.out.kB.lt;omega))) (.slice A L.length c) L.length w.heap.size (fj L) (by simp[Act.eval]) (HRD.out.keep (HI.out.alloc _).drew.kb (au _)) (iw _) (by unfold maxLen;omega) (by omega) (by have:=HI.out.kB.lt;simp;omega) ?_
              intro v7 w7 hown7 hg7 hv7;have hrow:∀k,(Value.ownBlock (.slice (some ⟨w5.heap.size,0,none⟩) 0 0))=some k→W.heap.size<k:=fun k hk=>by have:=H5k.out;simp[Value.ownBlock] at hk;omega
              have HJ:RI w xa (.slice A L.length c) W.heap.size w7:=by
                first
                  | exact HI.out.grown HB2.out hg7 (fun k hk=>by have:=H5k.out;simp[Value.ownBlock] at hk;omega)
                  | exact(HI.out.alloc _).grown HB2.out hg7 (fun k hk=>by have:=HI.out.kB.lt;simp[Value.ownBlock] at hk;omega)
                  | exact(HI.out.alloc _).drew.grown HB2.out hg7 (fun k hk=>by have:=HI.out.kB.lt;simp[Value.ownBlock] at hk;omega)
              rw[cM,bT] at hown7;obtain⟨A7,n7,c7,rfl⟩:=dR hown7;obtain rfl:=ei hown7;have HO:=aa hown7;clear p0 p1 p2 hown7 hg7 hv7 hrow;obtain⟨p0,p1,p2⟩:=HJ.cells;have HI:=aa HJ;clear HJ)
           | (refine dV rfl (.tmp 169) (.tmp 176) 47 rfl (W.heap.size+1) 124 i0 _ 2 24 Tryz.underlying47 hi0 hz0 hz1 hz2 rfl (by decide) (.slice A7 L.length c7) L.length (fj L) (by simp[Act.eval]) (HO.out.alloc _) (.slice (some ⟨w7.heap.size,0,none⟩) 1 1) 1 (w7.heap.size+1) (fj [(T,decide (xa=5))]) (by simp[Act.eval]) (fQ _ (fj [(T,decide (xa=5))]) 124 2 1 rfl (by omega)) (iw _) (by unfold maxLen;omega) (by omega) (by have:=HI.out.kB.lt;simp;omega) ?_;intro v8 w8 hown8 hg8 hv8;have HJ:RI w xa (.slice A L.length c) W.heap.size w8:=(HI.out.alloc _).grown HB2.out hg8 (fun k hk=>by have:=(HO.out.lt k hk).1;omega);obtain⟨A8,n8,c8,rfl⟩:=dR hown8;obtain rfl:=ei hown8;have HO8:=aa hown8;clear p0 p1 p2 hown8 hg8 hv8;obtain⟨p0,p1,p2⟩:=HJ.cells;have j1:w8.cell? ⟨W.heap.size,1,none⟩=some (.slice A L.length c):=by rw[HJ.kB.cell];rfl
              have j2:w8.frozen? ⟨W.heap.size,1,none⟩=false:=HJ.kB.frozen 1;have HI:=aa HJ;clear HJ)
           | (refine dV rfl (.tmp 169) (.tmp 176) 47 rfl (W.heap.size+1) 124 i0 _ 2 24 Tryz.underlying47 hi0 hz0 hz1 hz2 rfl (by decide) (.slice A7 L.length c7) L.length (fj L) (by simp[Act.eval]) (HO.out.alloc _) (.slice (some ⟨w6.heap.size,0,none⟩) 1 1) 1 (w6.heap.size+1) (fj [(T,decide (xa=5))]) (by simp[Act.eval]) (fQ _ (fj [(T,decide (xa=5))]) 124 2 1 rfl (by omega)) (iw _) (by unfold maxLen;omega) (by omega) (by have:=HI.out.kB.lt;simp;omega) ?_;intro v8 w8 hown8 hg8 hv8;have HJ:RI w xa (.slice A L.length c) W.heap.size w8:=(HI.out.alloc _).grown HB2.out hg8 (fun k hk=>by have:=(HO.out.lt k hk).1;omega);obtain⟨A8,n8,c8,rfl⟩:=dR hown8;obtain rfl:=ei hown8;have HO8:=aa hown8;clear p0 p1 p2 hown8 hg8 hv8;obtain⟨p0,p1,p2⟩:=HJ.cells;have j1:w8.cell? ⟨W.heap.size,1,none⟩=some (.slice A L.length c):=by rw[HJ.kB.cell];rfl
              have j2:w8.frozen? ⟨W.heap.size,1,none⟩=false:=HJ.kB.frozen 1;have HI:=aa HJ;clear HJ))
     all_goals (
       have hne8:(Value.slice A8 (L.length+1) c8).ownBlock≠some W.heap.size:=fun h=>by have:=(HO8.out.lt _ h).1;omega
       have z1:=HI.out.k1.far (p:=⟨W.heap.size,1,none⟩) (by have:=HB2.out;show w.heap.size+1≠W.heap.size;omega) (.slice A8 (L.length+1) c8);have z2:=HI.out.k2.far (p:=⟨W.heap.size,1,none⟩) (by have:=HB2.out;show w.heap.size+1+1≠W.heap.size;omega) (.slice A8 (L.length+1) c8);have zb:=HI.out.kb.setCell (p:=⟨W.heap.size,1,none⟩) (by have:=HB2.out;show w.heap.size≤W.heap.size;omega) (.slice A8 (L.length+1) c8);have zk:=HI.out.kB.set 1 (.slice A8 (L.length+1) c8);have zo:=ff (p:=⟨W.heap.size,1,none⟩) HO8.out hne8 (.slice A8 (L.length+1) c8);generalize World.setCell _ _ _=WC at z1 z2 zb zk zo ⊢;have zk:Bk WC W.heap.size 49 #[.int .i64 0,.slice A8 (L.length+1) c8,.bool false]:=zk;clear p0 p1 p2 j1 j2 hne8;obtain⟨q0,q1,q2,q3,q4,q5,q6,q7⟩:=z1.four;obtain⟨r0,r1,r2,r3,r4,r5⟩:=z2.three;obtain⟨v0,v1,v2,v3,v4,v5⟩:=zk.three;have HZ:=aa (ac z1 (ac z2 (ac zb (ac zk zo))));clear z1 z2 zb zk zo;go_upto_region 31 with fail
       go_region_held3 (fun w'=>w'.cell? ⟨W.heap.size,0,none⟩=some (.int .i64 0)∧w'.cell? ⟨W.heap.size,1,none⟩=some (.slice A8 (L.length+1) c8)∧w'.cell? ⟨W.heap.size,2,none⟩=some (.bool false))
         (first
           | with_reducible exact⟨v0,v1,v2⟩
           | go_keep)
         ((go_at_call 109;with_reducible refine(HSH.out _).mono ?_
           rintro e w9 ⟨rfl,hb9⟩;have hb9:Below WC.heap.size WC w9:=by first|exact hb9|exact(dN (aC _ WC) 1).trans hb9
           have z1:=HZ.out.1.below hb9 HZ.out.1.lt;have z2:=HZ.out.2.1.below hb9 HZ.out.2.1.lt;have zb:=HZ.out.2.2.1.trans (hb9.mono HZ.out.2.2.1.size);have zk:=HZ.out.2.2.2.1.below hb9 HZ.out.2.2.2.1.lt;have zo:=dS HZ.out.2.2.2.2 hb9;clear q0 q1 q2 q3 q4 q5 q6 q7 r0 r1 r2 r3 r4 r5 v0 v1 v2 v3 v4 v5;obtain⟨q0,q1,q2,q3,q4,q5,q6,q7⟩:=z1.four;obtain⟨r0,r1,r2,r3,r4,r5⟩:=z2.three;obtain⟨v0,v1,v2,v3,v4,v5⟩:=zk.three;have H6:=aa (ac trivial (ac z1 (ac z2 (ac zb zo))));clear hb9 z1 z2 zb zk zo))
       all_goals (
         obtain⟨m1,m2,mb,mo⟩:=iB (.int .i64 6) (.int .i64 (x:Int)) (.int .i64 (E:Int)) (.bool (!R)) (.int .i64 0) (.slice A8 (L.length+1) c8) (.bool false) H6.out.2.1 H6.out.2.2.1 (by omega) H6.out.2.2.2.1 (by omega) (by omega) _ rfl;have mo:=mo (Rt.of_own H6.out.2.2.2.2) (by decide) (by decide);generalize World.setCell _ _ _=W5 at m1 m2 mb mo ⊢;obtain⟨s0,s1,s2,s3,_⟩:=m1.four;obtain⟨t0,t1,t2,_⟩:=m2.three;try go_wp2
         refine aK (v:=.tuple #[jQ ⟨6,x,E,!R⟩,ik (⟨0,L++[(T,decide (xa=5))],false⟩:Lx).aw (.slice A8 (L.length+1) c8) (⟨0,L++[(T,decide (xa=5))],false⟩:Lx).bd]) (by simp[results,Tryz.results60,go_sem,ik,jQ,s0,s1,s2,s3,t0,t1,t2]) rfl ?_;exact⟨_,rfl,⟨_,rfl,by simpa [uA] using mo⟩,by first|exact mb|exact dN mb 1⟩))
end Go.Proofs.YtcagfamdoaoimaaGreatDoor
