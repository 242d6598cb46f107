/- quillwortref09.Step: a token as the reference finds it, case by case. -/
import Derived.Test.YtcagfamdoaoimaaGreatDoorSp9
import Derived.Test.YtcagfamdoaoimaaGreatDoorRb9
import Derived.Test.YtcagfamdoaoimaaGreatDoorSh9
import Derived.IntWalk
import Derived.Deep.CutBlock
set_option linter.unusedVariables false
set_option linter.unusedSimpArgs false
set_option maxRecDepth 100000
set_option maxHeartbeats 8000000
namespace Go.Proofs.YtcagfamdoaoimaaGreatDoor
open Go.RowKit
variable {L:List Dl} {g o n c:Nat} {A:Option Addr} {e t:TypeId} {y z:Value} {w W WB:World} (l:List UInt8) (x:Nat) (X:Lx)
theorem IQ {d:Dl} {r:List Dl} (h:Rt w e 2 (.slice (some ⟨g,o,none⟩) n c) n (fj (d::r))) (hn:n=r.length+1) :
    Rt w e 2 (.slice (if c=1 then some ⟨g,o,none⟩ else some ⟨g,o+2,none⟩) (n-1) (c-1)) (n-1) (fj r):=by
  obtain⟨h1,A',c',h2,h3,h4,h5,h6⟩:=h
  cases h2;refine⟨by rw[zz];omega,_,_,rfl,by omega,by omega,(fun h=>by split at h<;>cases h),fun h0=>?_⟩;obtain⟨g',o',cur,fr,ha,hb,hc⟩:=h6 (by omega)
  cases ha;refine⟨g,o+2,cur,fr,by rw[aB (by omega)],hb,fun j u hj=>?_⟩
  have:=hc (j+2) u (by show (NE d++fj r)[j+2]? = _;rw[aX (by show 2≤j+2;omega)];exact hj)
  rw[show o+2+j=o+(j+2) by omega];exact this
def lT (l:List UInt8) (x:Nat) (X:Lx) (T:Tk) (Y:Lx):Prop:=∀(A:Option Addr) (c:Nat) (w:World),Rt w 124 2 (.slice A X.pd.length c) X.pd.length (fj X.pd)→X.pd.length≤10000 →
    Calls Tryz.prog 60 #[.string ⟨l.toArray⟩,.int .i64 (x:Int),ik X.aw (.slice A X.pd.length c) X.bd] w fun e w'=>∃v,e=.returned (.tuple #[jQ T,v])∧CM w' Y v∧Below w.heap.size w w'
abbrev NP (W:World) (g:Nat) (x y z:Value):Prop:=W.cell? ⟨g,0,none⟩=some x∧W.cell? ⟨g,1,none⟩=some y∧W.cell? ⟨g,2,none⟩=some z∧W.frozen? ⟨g,0,none⟩=false∧W.frozen? ⟨g,1,none⟩=false∧W.frozen? ⟨g,2,none⟩=false
abbrev NW (W:World) (g:Nat) (x y z u:Value):Prop:=W.cell? ⟨g,0,none⟩=some x∧W.cell? ⟨g,1,none⟩=some y∧W.cell? ⟨g,2,none⟩=some z∧W.cell? ⟨g,3,none⟩=some u∧W.frozen? ⟨g,0,none⟩=false∧W.frozen? ⟨g,1,none⟩=false∧W.frozen? ⟨g,2,none⟩=false∧W.frozen? ⟨g,3,none⟩=false
abbrev NR (w W:World) (xa:Int) (bb:Bool) (A:Option Addr) (c:Nat) (L:List Dl):Prop:=
  Bk W w.heap.size 49 #[.int .i64 xa,.slice A L.length c,.bool bb]∧Bk W (w.heap.size+1) 54 #[.int .i64 0,.int .i64 0,.int .i64 0,.bool false]∧Bk W (w.heap.size+1+1) 49 #[.int .i64 0,.slice none 0 0,.bool false]∧Below w.heap.size w W∧W.heap.size=w.heap.size+3∧Rt W 124 2 (.slice A L.length c) L.length (fj L)
abbrev NA (w W:World) (xa:Int) (bb:Bool) (A:Option Addr) (c:Nat) (L:List Dl):Prop:=
  NP W w.heap.size (.int .i64 xa) (.slice A L.length c) (.bool bb)∧NW W (w.heap.size+1) (.int .i64 0) (.int .i64 0) (.int .i64 0) (.bool false)∧NP W (w.heap.size+1+1) (.int .i64 0) (.slice none 0 0) (.bool false)
theorem iZ (w:World) (xa:Int) (bb:Bool) (hr:Rt w 124 2 (.slice A L.length c) L.length (fj L)) :
    ∃W,W=(((w.alloc (.cells #[.int .i64 xa,.slice A L.length c,.bool bb] 49)).alloc (.cells #[.int .i64 0,.int .i64 0,.int .i64 0,.bool false] 54)).alloc (.cells #[.int .i64 0,.slice none 0 0,.bool false] 49))∧NR w W xa bb A c L∧NA w W xa bb A c L ∧
     ¬w.heap.size=w.heap.size+1∧¬w.heap.size=w.heap.size+1+1∧¬w.heap.size+1=w.heap.size+1+1∧¬w.heap.size+1+1=w.heap.size+1∧¬w.heap.size+1=w.heap.size∧¬w.heap.size+1+1=w.heap.size:=by
  obtain⟨W,hW⟩:∃W,W=(((w.alloc (.cells #[.int .i64 xa,.slice A L.length c,.bool bb] 49)).alloc (.cells #[.int .i64 0,.int .i64 0,.int .i64 0,.bool false] 54)).alloc (.cells #[.int .i64 0,.slice none 0 0,.bool false] 49)):=⟨_,rfl⟩;have k0:Bk W w.heap.size 49 #[.int .i64 xa,.slice A L.length c,.bool bb]:=by rw[hW];exact((Bk.new w _ _).alloc _).alloc _
  have k1:Bk W (w.heap.size+1) 54 #[.int .i64 0,.int .i64 0,.int .i64 0,.bool false]:=by rw[hW];exact(fH w _ _ _ _).alloc _
  have k2:Bk W (w.heap.size+1+1) 49 #[.int .i64 0,.slice none 0 0,.bool false]:=by rw[hW];simpa using Bk.new ((w.alloc _).alloc _) 49 _
  have hbw:Below w.heap.size w W:=by rw[hW];exact(((aC _ w).alloc (au _) _).alloc (by simp) _).alloc (by simp<;>omega) _
  exact⟨W,hW,⟨k0,k1,k2,hbw,by rw[hW];simp,hr.next hbw⟩,⟨k0.three,k1.four,k2.three⟩,by omega,by omega,by omega,by omega,by omega,by omega⟩
theorem ou {xa:Int} {bb:Bool} {x:Value} (h:NR w W xa bb A c L) (hb:Below W.heap.size W WB) (hk:Bk WB W.heap.size t #[x,y,z]) :
    (Bk WB w.heap.size 49 #[.int .i64 xa,.slice A L.length c,.bool bb]∧Bk WB (w.heap.size+1) 54 #[.int .i64 0,.int .i64 0,.int .i64 0,.bool false]∧Bk WB (w.heap.size+1+1) 49 #[.int .i64 0,.slice none 0 0,.bool false]∧Below w.heap.size w WB∧Bk WB W.heap.size t #[x,y,z]∧Rt WB 124 2 (.slice A L.length c) L.length (fj L)) ∧
      NA w WB xa bb A c L∧NP WB W.heap.size x y z∧¬w.heap.size+1=W.heap.size∧¬w.heap.size+1+1=W.heap.size∧¬W.heap.size=w.heap.size+1∧¬W.heap.size=w.heap.size+1+1∧¬W.heap.size=w.heap.size∧¬w.heap.size=W.heap.size:=by
  obtain⟨k0,k1,k2,h1,h2,h3⟩:=h;have j0:=k0.below hb k0.lt;have j1:=k1.below hb k1.lt;have j2:=k2.below hb k2.lt;exact⟨⟨j0,j1,j2,h1.trans (hb.mono h1.size),hk,h3.next hb⟩,⟨j0.three,j1.four,j2.three⟩,hk.three,by omega,by omega,by omega,by omega,by omega,by omega⟩
theorem x9 (hl:l.length≤900) (hx:x<l.length) (hbd:X.bd=false) (hb:x<fF l x):lT l x X ⟨1,x,fF l x,false⟩ X:=by
  have hbc:∀W,iG 105 #[.string ⟨l.toArray⟩,.int .i64 (x:Int)] W (.int .i64 ((fF l x:Nat):Int)):=fun W=>jW l x W (by omega) (by omega)
  have hble:fF l x≤l.length:=(mG l _ x rfl (by omega)).2;obtain⟨E,hE⟩:∃E,E=fF l x:=⟨_,rfl⟩;rw[←hE] at hbc hb hble ⊢;clear hE;have HC:=aa hbc;clear hbc;have d1:decide ((x:Int)<(E:Int))=true:=aG (by omega);have d2:decide (x<E)=true:=aG hb;intro A c w hr hn2;unfold ik;obtain⟨xa,L,xb⟩:=X;obtain rfl:xb=false:=hbd;have hr:Rt w 124 2 (.slice A L.length c) L.length (fj L):=hr;have hn2:L.length≤10000:=hn2;go_enter Tryz.func60,Tryz.ntmps60;go_wp2_with fail;obtain⟨W,hW,hw6,⟨⟨p0,p1,p2,p3,p4,p5⟩,⟨q0,q1,q2,q3,q4,q5,q6,q7⟩,⟨r0,r1,r2,r3,r4,r5⟩⟩,a1,a2,a3,a4,a5,a6⟩:=iZ w xa false hr;rw[←hW];have HW:=aa hw6;clear hW hw6 hr;go_wp2_with (
    (go_at_call 105;with_reducible refine(HC.out _).mono ?_
     rintro e w' ⟨rfl,rfl⟩))
  go_region;all_goals (
    obtain⟨m1,m2,mb,mo⟩:=iB (.int .i64 1) (.int .i64 (x:Int)) (.int .i64 (E:Int)) (.bool false) (.int .i64 xa) (.slice A L.length c) (.bool false) HW.out.2.1 HW.out.2.2.1 (by omega) HW.out.2.2.2.1 (by omega) (by omega) _ rfl;have mo:=mo (HW.out.2.2.2.2.2) (by decide) (by decide);generalize World.setCell _ _ _=W5 at m1 m2 mb mo ⊢;obtain⟨s0,s1,s2,s3,_⟩:=m1.four;obtain⟨t0,t1,t2,_⟩:=m2.three;try go_wp2
    refine aK (v:=.tuple #[jQ ⟨1,x,E,false⟩,ik (⟨xa,L,false⟩:Lx).aw (.slice A L.length c) (⟨xa,L,false⟩:Lx).bd]) (by simp[results,Tryz.results60,go_sem,ik,jQ,s0,s1,s2,s3,t0,t1,t2]) rfl ?_;exact⟨_,rfl,⟨_,rfl,mo⟩,by first|exact mb|exact dN mb 1⟩)
theorem EH (hl:l.length≤900) (hx:x<l.length) (hbd:X.bd=false) (hnb:fF l x=x) (h10:(l.getD x 0).toNat=10):lT l x X ⟨2,x,x+1,false⟩ ⟨0,X.pd,!X.pd.isEmpty⟩:=by
  have hbc:∀W,iG 105 #[.string ⟨l.toArray⟩,.int .i64 (x:Int)] W (.int .i64 (x:Int)):=fun W=>by
    have h:=jW l x W (by omega) (by omega)
    rwa [hnb] at h
  obtain⟨g1,g2⟩:=jz l x hx;obtain⟨cc,hcc⟩:∃cc,cc=l.getD x 0:=⟨_,rfl⟩;rw[←hcc] at g2 h10;have u1:(x:Int)<(l.length:Int):=by omega
  have u2:(0:Int)≤(x:Int):=by omega
  have b1:((cc.toNat:Int)==10)=true:=by rw[aR];omega
  have hdl:decide (0<X.pd.length) = !X.pd.isEmpty:=by cases X.pd<;>rfl
  clear hcc hnb;intro A c w hr hn2;unfold ik;obtain⟨xa,L,xb⟩:=X;obtain rfl:xb=false:=hbd;have hr:Rt w 124 2 (.slice A L.length c) L.length (fj L):=hr;have hn2:L.length≤10000:=hn2;go_enter Tryz.func60,Tryz.ntmps60;go_wp2_with fail;obtain⟨W,hW,hw6,⟨⟨p0,p1,p2,p3,p4,p5⟩,⟨q0,q1,q2,q3,q4,q5,q6,q7⟩,⟨r0,r1,r2,r3,r4,r5⟩⟩,a1,a2,a3,a4,a5,a6⟩:=iZ w xa false hr;rw[←hW];have HW:=aa hw6;clear hW hw6 hr;have HC:=aa hbc;clear hbc;have hdl:decide (0<L.length) = !L.isEmpty:=hdl;have HD:=aa hdl;clear hdl;go_wp2_with (
    (go_at_call 105;with_reducible refine(HC.out _).mono ?_
     rintro e w' ⟨rfl,rfl⟩))
  go_region;all_goals (
    obtain⟨m1,m2,mb,mo⟩:=iB (.int .i64 2) (.int .i64 (x:Int)) (.int .i64 ((x:Int)+1)) (.bool false) (.int .i64 0) (.slice A L.length c) (.bool (!L.isEmpty)) HW.out.2.1 HW.out.2.2.1 (by omega) HW.out.2.2.2.1 (by omega) (by omega) _ rfl;have mo:=mo (HW.out.2.2.2.2.2) (by decide) (by decide);generalize World.setCell _ _ _=W5 at m1 m2 mb mo ⊢;obtain⟨s0,s1,s2,s3,_⟩:=m1.four;obtain⟨t0,t1,t2,_⟩:=m2.three;try go_wp2
    refine aK (v:=.tuple #[jQ ⟨2,x,x+1,false⟩,ik (⟨0,L,!L.isEmpty⟩:Lx).aw (.slice A L.length c) (⟨0,L,!L.isEmpty⟩:Lx).bd]) (by simp[results,Tryz.results60,go_sem,ik,jQ,s0,s1,s2,s3,t0,t1,t2]) rfl ?_;exact⟨_,rfl,⟨_,rfl,mo⟩,by first|exact mb|exact dN mb 1⟩)
theorem uU (hl:l.length≤900) (hx:x<l.length) (hbd:X.bd=false) (hnb:fF l x=x) (h35:(l.getD x 0).toNat=35):lT l x X ⟨3,x,gD l x,false⟩ ⟨0,X.pd,false⟩:=by
  have hbc:∀W,iG 105 #[.string ⟨l.toArray⟩,.int .i64 (x:Int)] W (.int .i64 (x:Int)):=fun W=>by
    have h:=jW l x W (by omega) (by omega)
    rwa [hnb] at h
  obtain⟨g1,g2⟩:=jz l x hx;obtain⟨cc,hcc⟩:∃cc,cc=l.getD x 0:=⟨_,rfl⟩;rw[←hcc] at g2 h35;have u1:(x:Int)<(l.length:Int):=by omega
  have u2:(0:Int)≤(x:Int):=by omega
  have b1:((cc.toNat:Int)==10)=false:=by rw[az];omega
  have b2:((cc.toNat:Int)==35)=true:=by rw[aR];omega
  obtain⟨E,hE⟩:∃E,E=gD l x:=⟨_,rfl⟩;rw[←hE];have HE:=aa hE;clear hcc hnb hE;intro A c w hr hn2;unfold ik;obtain⟨xa,L,xb⟩:=X;obtain rfl:xb=false:=hbd;have hr:Rt w 124 2 (.slice A L.length c) L.length (fj L):=hr;have hn2:L.length≤10000:=hn2;go_enter Tryz.func60,Tryz.ntmps60;go_wp2_with fail;obtain⟨W,hW,hw6,⟨⟨p0,p1,p2,p3,p4,p5⟩,⟨q0,q1,q2,q3,q4,q5,q6,q7⟩,⟨r0,r1,r2,r3,r4,r5⟩⟩,a1,a2,a3,a4,a5,a6⟩:=iZ w xa false hr;rw[←hW];have HW:=aa hw6;clear hW hw6 hr;have HC:=aa hbc;clear hbc;go_wp2_with (
    (go_at_call 105;with_reducible refine(HC.out _).mono ?_
     rintro e w' ⟨rfl,rfl⟩))
  refine ki fun WB hbB hkB hsB=>?_
  clear p0 p1 p2 p3 p4 p5 q0 q1 q2 q3 q4 q5 q6 q7 r0 r1 r2 r3 r4 r5;obtain⟨hb6,⟨⟨p0,p1,p2,p3,p4,p5⟩,⟨q0,q1,q2,q3,q4,q5,q6,q7⟩,⟨r0,r1,r2,r3,r4,r5⟩⟩,⟨v0,v1,v2,v3,v4,v5⟩,a7,a8,a9,a10,a11,a12⟩:=ou HW.out hbB hkB;have HB:=aa hb6;clear hb6 hkB hbB;go_wp2_with fail;go_loop [12] (fun s=>∃k:Nat,x≤k∧k≤l.length∧s=.int .i64 (k:Int)∧∀j,x≤j→j<k→(l.getD j 0).toNat≠10) (fun s=>l.length-(intOf s).toNat)
  case atStart=>exact⟨x,au _,by omega,rfl,fun j h1 h2=>by omega⟩
  case round=>
    obtain⟨k,hxk,hkl,rfl,hno⟩:=hrel;by_cases hlt:k<l.length
    ·obtain⟨i1,i2⟩:=jz l k hlt;obtain⟨d,hd⟩:∃d,d=l.getD k 0:=⟨_,rfl⟩;rw[←hd] at i2;have e1:(k:Int)<(l.length:Int):=by omega
     have e2:(0:Int)≤(k:Int):=by omega
     by_cases hd10:d.toNat=10
     ·have e3:((d.toNat:Int)!=10)=false:=by rw[bne_eq_false_iff_eq];omega
      have e4:((d.toNat:Int)==10)=true:=by rw[aR];omega
      obtain rfl:k=E:=by rw[HE.out];exact(uc l x k hxk hno hlt (by rw[←hd];exact hd10)).symm
      clear hno hd;go_wp2_with fail;go_region;all_goals (
        obtain⟨m1,m2,mb,mo⟩:=iB (.int .i64 3) (.int .i64 (x:Int)) (.int .i64 (k:Int)) (.bool false) (.int .i64 0) (.slice A L.length c) (.bool false) HB.out.2.1 HB.out.2.2.1 (by omega) HB.out.2.2.2.1 (by omega) (by omega) _ rfl;have mo:=mo (HB.out.2.2.2.2.2) (by decide) (by decide);generalize World.setCell _ _ _=W5 at m1 m2 mb mo ⊢;obtain⟨s0,s1,s2,s3,_⟩:=m1.four;obtain⟨t0,t1,t2,_⟩:=m2.three;try go_wp2
        refine aK (v:=.tuple #[jQ ⟨3,x,k,false⟩,ik (⟨0,L,false⟩:Lx).aw (.slice A L.length c) (⟨0,L,false⟩:Lx).bd]) (by simp[results,Tryz.results60,go_sem,ik,jQ,s0,s1,s2,s3,t0,t1,t2]) rfl ?_;exact⟨_,rfl,⟨_,rfl,mo⟩,by first|exact mb|exact dN mb 1⟩)
     ·have e3:((d.toNat:Int)!=10)=true:=by rw[bne_iff_ne];omega
      have e4:((d.toNat:Int)==10)=false:=by rw[az];omega
      have hno2:∀j,x≤j→j<k+1→(l.getD j 0).toNat≠10:=fun j h1 h2=>by
        by_cases e:j=k
        ·subst e;rw[←hd];exact hd10
        ·exact hno j h1 (by omega)
      have HN:=aa hno2;clear hno hno2 hd;go_wp2_with fail;exact⟨⟨k+1,by omega,by omega,by go_num,HN.out⟩,by simp[intOf]<;>omega⟩
    ·obtain rfl:k=l.length:=by omega
     obtain rfl:l.length=E:=by rw[HE.out];exact(vH l x (by omega) hno).symm
     clear hno;go_wp2_with fail;go_region;all_goals (
       obtain⟨m1,m2,mb,mo⟩:=iB (.int .i64 3) (.int .i64 (x:Int)) (.int .i64 (l.length:Int)) (.bool false) (.int .i64 0) (.slice A L.length c) (.bool false) HB.out.2.1 HB.out.2.2.1 (by omega) HB.out.2.2.2.1 (by omega) (by omega) _ rfl;have mo:=mo (HB.out.2.2.2.2.2) (by decide) (by decide);generalize World.setCell _ _ _=W5 at m1 m2 mb mo ⊢;obtain⟨s0,s1,s2,s3,_⟩:=m1.four;obtain⟨t0,t1,t2,_⟩:=m2.three;try go_wp2
       refine aK (v:=.tuple #[jQ ⟨3,x,l.length,false⟩,ik (⟨0,L,false⟩:Lx).aw (.slice A L.length c) (⟨0,L,false⟩:Lx).bd]) (by simp[results,Tryz.results60,go_sem,ik,jQ,s0,s1,s2,s3,t0,t1,t2]) rfl ?_;exact⟨_,rfl,⟨_,rfl,mo⟩,by first|exact mb|exact dN mb 1⟩)
theorem EG (hl:l.length≤900) (hx:x<l.length) (hbd:X.bd=false) (hnb:fF l x=x) (h10:(l.getD x 0).toNat≠10) (h35:(l.getD x 0).toNat≠35) (hop:0<(fp l x).2) (h4:(fp l x).1≠4∧(fp l x).1≠5):lT l x X ⟨4,x,x+(fp l x).2,false⟩ ⟨0,X.pd,false⟩:=by
  have hbc:∀W,iG 105 #[.string ⟨l.toArray⟩,.int .i64 (x:Int)] W (.int .i64 (x:Int)):=fun W=>by
    have h:=jW l x W (by omega) (by omega)
    rwa [hnb] at h
  obtain⟨g1,g2⟩:=jz l x hx;obtain⟨cc,hcc⟩:∃cc,cc=l.getD x 0:=⟨_,rfl⟩;rw[←hcc] at g2 h10 h35;have u1:(x:Int)<(l.length:Int):=by omega
  have u2:(0:Int)≤(x:Int):=by omega
  have b1:((cc.toNat:Int)==10)=false:=by rw[az];omega
  have b2:((cc.toNat:Int)==35)=false:=by rw[az];omega
  obtain⟨hs1,hs2,hs3⟩:=oC l x hx;have hO17:(fp l x).1≤17:=by rw[←hs1];exact jI _ _
  have hO0:0<(fp l x).1:=by
    refine Nat.pos_of_ne_zero fun h=>?_
    rw[h] at hs2
    have:(gO 0).length=0:=rfl
    omega
  have hoc:∀W,iG 106 #[.string ⟨l.toArray⟩,.int .i64 (x:Int)] W (.int .i64 (((fp l x).1:Nat):Int)):=fun W=>by
    have h:=tT l x W (by omega) (by omega)
    rwa [hs1] at h
  have htc:∀W,iG 61 #[.int .i64 (((fp l x).1:Nat):Int)] W (.string ⟨(gO (fp l x).1).toArray⟩):=fun W=>tv _ hO17 W
  obtain⟨O,hO⟩:∃O,O=(fp l x).1:=⟨_,rfl⟩;obtain⟨K,hK⟩:∃K,K=(fp l x).2:=⟨_,rfl⟩;obtain⟨S,hS⟩:∃S,S=gO O:=⟨_,rfl⟩;rw[←hO] at hoc htc hs2 hO17 hO0 h4;rw[←hS] at htc hs2;rw[←hK] at hs2 hop ⊢;have hSK:S.length=K:=hs2;have hKl:K≤3:=by rw[←hSK,hS];exact nL _
  clear hs1 hs3 hO hK hS hcc hnb hs2;intro A c w hr hn2;unfold ik;obtain⟨xa,L,xb⟩:=X;obtain rfl:xb=false:=hbd;have hr:Rt w 124 2 (.slice A L.length c) L.length (fj L):=hr;have hn2:L.length≤10000:=hn2;go_enter Tryz.func60,Tryz.ntmps60;go_wp2_with fail;obtain⟨W,hW,hw6,⟨⟨p0,p1,p2,p3,p4,p5⟩,⟨q0,q1,q2,q3,q4,q5,q6,q7⟩,⟨r0,r1,r2,r3,r4,r5⟩⟩,a1,a2,a3,a4,a5,a6⟩:=iZ w xa false hr;rw[←hW];have HW:=aa hw6;clear hW hw6 hr;have HC:=aa hbc;have HO:=aa hoc;have HT:=aa htc;clear hbc hoc htc;have hS3:S.length≤3:=by omega
  have hwr:IntKind.i64.wrap ((x:Int)+(S.length:Int))=(x:Int)+(S.length:Int):=aS _ (by omega);have HSK:=aa hSK;clear hSK;have d0:decide ((0:Int)<(O:Int))=true:=aG (by omega);have d00:decide (0<O)=true:=aG hO0;have e4:((O:Int)==4)=false:=by rw[az];omega
  have e5:((O:Int)==5)=false:=by rw[az];omega
  go_upto_region 17 with (
    (go_at_call 105;with_reducible refine(HC.out _).mono ?_
     rintro e w' ⟨rfl,rfl⟩))
  refine ki fun WB hbB hkB hsB=>?_
  clear p0 p1 p2 p3 p4 p5 q0 q1 q2 q3 q4 q5 q6 q7 r0 r1 r2 r3 r4 r5;obtain⟨hb6,⟨⟨p0,p1,p2,p3,p4,p5⟩,⟨q0,q1,q2,q3,q4,q5,q6,q7⟩,⟨r0,r1,r2,r3,r4,r5⟩⟩,⟨v0,v1,v2,v3,v4,v5⟩,a7,a8,a9,a10,a11,a12⟩:=ou HW.out hbB hkB;have HB:=aa hb6;clear hb6 hkB hbB;go_wp2_with (
    (go_at_call 106;with_reducible refine(HO.out _).mono ?_
     rintro e w' ⟨rfl,rfl⟩))
  go_region_held3 (fun w'=>w'.cell? ⟨W.heap.size,0,none⟩=some (.int .i64 0)∧w'.cell? ⟨W.heap.size,1,none⟩=some (.slice A L.length c)∧w'.cell? ⟨W.heap.size,2,none⟩=some (.bool false))
    (first
      | with_reducible exact⟨v0,v1,v2⟩
      | go_keep)
    ((go_at_call 61;with_reducible refine(HT.out _).mono ?_
      rintro e w' ⟨rfl,rfl⟩))
  all_goals (
    obtain⟨m1,m2,mb,mo⟩:=iB (.int .i64 4) (.int .i64 (x:Int)) (.int .i64 ((x:Int)+(S.length:Int))) (.bool false) (.int .i64 0) (.slice A L.length c) (.bool false) HB.out.2.1 HB.out.2.2.1 (by omega) HB.out.2.2.2.1 (by omega) (by omega) _ rfl;have mo:=mo (HB.out.2.2.2.2.2) (by decide) (by decide);generalize World.setCell _ _ _=W5 at m1 m2 mb mo ⊢;obtain⟨s0,s1,s2,s3,_⟩:=m1.four;obtain⟨t0,t1,t2,_⟩:=m2.three;try go_wp2
    refine aK (v:=.tuple #[jQ ⟨4,x,x+K,false⟩,ik (⟨0,L,false⟩:Lx).aw (.slice A L.length c) (⟨0,L,false⟩:Lx).bd]) (by simp[results,Tryz.results60,go_sem,ik,jQ,s0,s1,s2,s3,t0,t1,t2,HSK.out]) rfl ?_;exact⟨_,rfl,⟨_,rfl,mo⟩,by first|exact mb|exact dN mb 1⟩)
theorem Ar (hl:l.length≤900) (hx:x<l.length) (hbd:X.bd=false) (hnb:fF l x=x) (h10:(l.getD x 0).toNat≠10) (h35:(l.getD x 0).toNat≠35) (hop:0<(fp l x).2) (h4:(fp l x).1=4∨(fp l x).1=5):lT l x X ⟨4,x,x+(fp l x).2,false⟩ ⟨((fp l x).1:Int),X.pd,false⟩:=by
  have hbc:∀W,iG 105 #[.string ⟨l.toArray⟩,.int .i64 (x:Int)] W (.int .i64 (x:Int)):=fun W=>by
    have h:=jW l x W (by omega) (by omega)
    rwa [hnb] at h
  obtain⟨g1,g2⟩:=jz l x hx;obtain⟨cc,hcc⟩:∃cc,cc=l.getD x 0:=⟨_,rfl⟩;rw[←hcc] at g2 h10 h35;have u1:(x:Int)<(l.length:Int):=by omega
  have u2:(0:Int)≤(x:Int):=by omega
  have b1:((cc.toNat:Int)==10)=false:=by rw[az];omega
  have b2:((cc.toNat:Int)==35)=false:=by rw[az];omega
  obtain⟨hs1,hs2,hs3⟩:=oC l x hx;have hO17:(fp l x).1≤17:=by rw[←hs1];exact jI _ _
  have hO0:0<(fp l x).1:=by
    refine Nat.pos_of_ne_zero fun h=>?_
    rw[h] at hs2
    have:(gO 0).length=0:=rfl
    omega
  have hoc:∀W,iG 106 #[.string ⟨l.toArray⟩,.int .i64 (x:Int)] W (.int .i64 (((fp l x).1:Nat):Int)):=fun W=>by
    have h:=tT l x W (by omega) (by omega)
    rwa [hs1] at h
  have htc:∀W,iG 61 #[.int .i64 (((fp l x).1:Nat):Int)] W (.string ⟨(gO (fp l x).1).toArray⟩):=fun W=>tv _ hO17 W
  obtain⟨O,hO⟩:∃O,O=(fp l x).1:=⟨_,rfl⟩;obtain⟨K,hK⟩:∃K,K=(fp l x).2:=⟨_,rfl⟩;obtain⟨S,hS⟩:∃S,S=gO O:=⟨_,rfl⟩;rw[←hO] at hoc htc hs2 hO17 hO0 h4 ⊢;rw[←hS] at htc hs2;rw[←hK] at hs2 hop ⊢;have hSK:S.length=K:=hs2;have hKl:K≤3:=by rw[←hSK,hS];exact nL _
  clear hs1 hs3 hO hK hS hcc hnb hs2;intro A c w hr hn2;unfold ik;obtain⟨xa,L,xb⟩:=X;obtain rfl:xb=false:=hbd;have hr:Rt w 124 2 (.slice A L.length c) L.length (fj L):=hr;have hn2:L.length≤10000:=hn2;go_enter Tryz.func60,Tryz.ntmps60;go_wp2_with fail;obtain⟨W,hW,hw6,⟨⟨p0,p1,p2,p3,p4,p5⟩,⟨q0,q1,q2,q3,q4,q5,q6,q7⟩,⟨r0,r1,r2,r3,r4,r5⟩⟩,a1,a2,a3,a4,a5,a6⟩:=iZ w xa false hr;rw[←hW];have HW:=aa hw6;clear hW hw6 hr;have HC:=aa hbc;have HO:=aa hoc;have HT:=aa htc;clear hbc hoc htc;have hS3:S.length≤3:=by omega
  have hwr:IntKind.i64.wrap ((x:Int)+(S.length:Int))=(x:Int)+(S.length:Int):=aS _ (by omega);have HSK:=aa hSK;clear hSK;have d0:decide ((0:Int)<(O:Int))=true:=aG (by omega);have d00:decide (0<O)=true:=aG hO0;have e45:((O:Int)==4)=true∨(((O:Int)==4)=false∧((O:Int)==5)=true):=by
    rcases h4 with h|h
    ·exact .inl (by rw[aR];omega)
    ·exact .inr ⟨by rw[az];omega,by rw[aR];omega⟩
  clear h4;go_upto_region 17 with (
    (go_at_call 105;with_reducible refine(HC.out _).mono ?_
     rintro e w' ⟨rfl,rfl⟩))
  refine ki fun WB hbB hkB hsB=>?_
  clear p0 p1 p2 p3 p4 p5 q0 q1 q2 q3 q4 q5 q6 q7 r0 r1 r2 r3 r4 r5;obtain⟨hb6,⟨⟨p0,p1,p2,p3,p4,p5⟩,⟨q0,q1,q2,q3,q4,q5,q6,q7⟩,⟨r0,r1,r2,r3,r4,r5⟩⟩,⟨v0,v1,v2,v3,v4,v5⟩,a7,a8,a9,a10,a11,a12⟩:=ou HW.out hbB hkB;have HB:=aa hb6;clear hb6 hkB hbB;rcases e45 with e4|⟨e4,e5⟩
  all_goals (
    go_upto_region 21 with (
      (go_at_call 106;with_reducible refine(HO.out _).mono ?_
       rintro e w' ⟨rfl,rfl⟩))
    have y1:=HB.out.2.1.far (p:=⟨W.heap.size,0,none⟩) (by have:=HW.out.2.2.2.2.1;show w.heap.size+1≠W.heap.size;omega) (.int .i64 (O:Int));have y2:=HB.out.2.2.1.far (p:=⟨W.heap.size,0,none⟩) (by have:=HW.out.2.2.2.2.1;show w.heap.size+1+1≠W.heap.size;omega) (.int .i64 (O:Int));have yb:=HB.out.2.2.2.1.setCell (p:=⟨W.heap.size,0,none⟩) (by have:=HW.out.2.2.2.2.1;show w.heap.size≤W.heap.size;omega) (.int .i64 (O:Int));have yk:=HB.out.2.2.2.2.1.set 0 (.int .i64 (O:Int));have yr:=HB.out.2.2.2.2.2.keep (ef (fD WB (some W.heap.size)) 0 (.int .i64 (O:Int))) (HB.out.2.2.2.2.1.row (by decide));have y0:=HB.out.1.far (p:=⟨W.heap.size,0,none⟩) (by have:=HW.out.2.2.2.2.1;show w.heap.size≠W.heap.size;omega) (.int .i64 (O:Int));generalize WB.setCell _ _=WC at y0 y1 y2 yb yk yr ⊢;have yk:Bk WC W.heap.size 49 #[.int .i64 (O:Int),.slice A L.length c,.bool false]:=yk;clear p0 p1 p2 p3 p4 p5 q0 q1 q2 q3 q4 q5 q6 q7 r0 r1 r2 r3 r4 r5 v0 v1 v2 v3 v4 v5;obtain⟨q0,q1,q2,q3,q4,q5,q6,q7⟩:=y1.four;obtain⟨r0,r1,r2,r3,r4,r5⟩:=y2.three;obtain⟨v0,v1,v2,v3,v4,v5⟩:=yk.three;have HD:=aa (ac y0 (ac y1 (ac y2 (ac yb (ac yk yr)))));clear y0 y1 y2 yb yk yr
    go_region_held3 (fun w'=>w'.cell? ⟨W.heap.size,0,none⟩=some (.int .i64 (O:Int))∧w'.cell? ⟨W.heap.size,1,none⟩=some (.slice A L.length c)∧w'.cell? ⟨W.heap.size,2,none⟩=some (.bool false))
      (first
        | with_reducible exact⟨v0,v1,v2⟩
        | go_keep)
      ((go_at_call 61;with_reducible refine(HT.out _).mono ?_
        rintro e w' ⟨rfl,rfl⟩)))
  all_goals (
    obtain⟨m1,m2,mb,mo⟩:=iB (.int .i64 4) (.int .i64 (x:Int)) (.int .i64 ((x:Int)+(S.length:Int))) (.bool false) (.int .i64 (O:Int)) (.slice A L.length c) (.bool false) HD.out.2.1 HD.out.2.2.1 (by omega) HD.out.2.2.2.1 (by omega) (by omega) _ rfl;have mo:=mo (HD.out.2.2.2.2.2) (by decide) (by decide);generalize World.setCell _ _ _=W5 at m1 m2 mb mo ⊢;obtain⟨s0,s1,s2,s3,_⟩:=m1.four;obtain⟨t0,t1,t2,_⟩:=m2.three;try go_wp2
    refine aK (v:=.tuple #[jQ ⟨4,x,x+K,false⟩,ik (⟨(O:Int),L,false⟩:Lx).aw (.slice A L.length c) (⟨(O:Int),L,false⟩:Lx).bd]) (by simp[results,Tryz.results60,go_sem,ik,jQ,s0,s1,s2,s3,t0,t1,t2,HSK.out]) rfl ?_;exact⟨_,rfl,⟨_,rfl,mo⟩,by first|exact mb|exact dN mb 1⟩)
theorem C1 (hl:l.length≤900) (hx:x<l.length) (hbd:X.bd=false) (hnb:fF l x=x) (h10:(l.getD x 0).toNat≠10) (h35:(l.getD x 0).toNat≠35) (hop:(fp l x).2=0) (hnum:mq l x=true):lT l x X ⟨5,x,x+l8 l x,false⟩ ⟨0,X.pd,false⟩:=by
  have hbc:∀W,iG 105 #[.string ⟨l.toArray⟩,.int .i64 (x:Int)] W (.int .i64 (x:Int)):=fun W=>by
    have h:=jW l x W (by omega) (by omega)
    rwa [hnb] at h
  obtain⟨g1,g2⟩:=jz l x hx;obtain⟨cc,hcc⟩:∃cc,cc=l.getD x 0:=⟨_,rfl⟩;rw[←hcc] at g2 h10 h35;have u1:(x:Int)<(l.length:Int):=by omega
  have u2:(0:Int)≤(x:Int):=by omega
  have b1:((cc.toNat:Int)==10)=false:=by rw[az];omega
  have b2:((cc.toNat:Int)==35)=false:=by rw[az];omega
  have hoc:∀W,iG 106 #[.string ⟨l.toArray⟩,.int .i64 (x:Int)] W (.int .i64 0):=fun W=>by
    obtain⟨hs1,hs2,hs3⟩:=oC l x hx;have h17:(fp l x).1≤17:=by rw[←hs1];exact jI _ _
    have h0:(fp l x).1=0:=by
      rw[hop] at hs2;by_cases h:(fp l x).1=0
      ·exact h
      ·exfalso
       have:((List.range 17).all fun k=>decide (0<(gO (k+1)).length))=true:=by decide
       have h1:=bS.1 this ((fp l x).1-1) (cI.2 (by omega));rw[show (fp l x).1-1+1=(fp l x).1 by omega,hs2] at h1;simp at h1
    have h:=tT l x W (by omega) (by omega)
    rwa [hs1,h0] at h
  obtain⟨D,hD⟩:∃D,D=l8 l x:=⟨_,rfl⟩;have hDl:D≤l.length-x:=by rw[hD];exact iJ gz l x
  rw[←hD];have hn3:0<D∧x+D<l.length∧((l.getD (x+D) 0).toNat=60∨(l.getD (x+D) 0).toNat=62):=by
    unfold mq at hnum;rw[←hD] at hnum;simp only[aT,dm,bW,aR] at hnum;exact⟨hnum.1.1,hnum.1.2,hnum.2⟩
  have HN3:=aa hn3;have HD0:=aa hD;clear hD hnum hn3 hcc hnb hop;intro A c w hr hn2;unfold ik;obtain⟨xa,L,xb⟩:=X;obtain rfl:xb=false:=hbd;have hr:Rt w 124 2 (.slice A L.length c) L.length (fj L):=hr;have hn2:L.length≤10000:=hn2;go_enter Tryz.func60,Tryz.ntmps60;go_wp2_with fail;obtain⟨W,hW,hw6,⟨⟨p0,p1,p2,p3,p4,p5⟩,⟨q0,q1,q2,q3,q4,q5,q6,q7⟩,⟨r0,r1,r2,r3,r4,r5⟩⟩,a1,a2,a3,a4,a5,a6⟩:=iZ w xa false hr;rw[←hW];have HW:=aa hw6;clear hW hw6 hr;have HC:=aa hbc;have HO:=aa hoc;clear hbc hoc;go_upto_region 17 with (
    (go_at_call 105;with_reducible refine(HC.out _).mono ?_
     rintro e w' ⟨rfl,rfl⟩))
  refine ki fun WB hbB hkB hsB=>?_
  clear p0 p1 p2 p3 p4 p5 q0 q1 q2 q3 q4 q5 q6 q7 r0 r1 r2 r3 r4 r5;obtain⟨hb6,⟨⟨p0,p1,p2,p3,p4,p5⟩,⟨q0,q1,q2,q3,q4,q5,q6,q7⟩,⟨r0,r1,r2,r3,r4,r5⟩⟩,⟨v0,v1,v2,v3,v4,v5⟩,a7,a8,a9,a10,a11,a12⟩:=ou HW.out hbB hkB;have HB:=aa hb6;clear hb6 hkB hbB;go_wp2_with (
    (go_at_call 106;with_reducible refine(HO.out _).mono ?_
     rintro e w' ⟨rfl,rfl⟩))
  go_loop [14] (fun s=>∃k:Nat,x≤k∧k≤l.length∧s=.int .i64 (k:Int)∧∀j,x≤j→j<k→gz (l.getD j 0)=true) (fun s=>l.length-(intOf s).toNat)
  case atStart=>exact⟨x,au _,by omega,rfl,fun j h1 h2=>by omega⟩
  case round=>
    obtain⟨k,hxk,hkl,rfl,hno⟩:=hrel;by_cases hlt:k<l.length
    ·obtain⟨i1,i2⟩:=jz l k hlt;obtain⟨d,hd⟩:∃d,d=l.getD k 0:=⟨_,rfl⟩;rw[←hd] at i2;have e1:(k:Int)<(l.length:Int):=by omega
     have e2:(0:Int)≤(k:Int):=by omega
     cases hdig:gz d
     ·have e3:(eT d==6)=false:=hdig;have hkD:k=x+D:=by
        have:l8 l x=k-x:=om gz l x (k-x) (fun j hj=>hno _ (by omega) (by omega)) (by omega) (by rw[show x+(k-x)=k by omega,←hd];exact hdig)
        rw[HD0.out,this];omega
      clear hno hdig;have f1:decide ((x:Int)<(k:Int))=true:=aG (by have:=HN3.out.1;omega);have f2:decide (x<k)=true:=aG (by have:=HN3.out.1;omega);have f3:((d.toNat:Int)==60)=true∨(((d.toNat:Int)==60)=false∧((d.toNat:Int)==62)=true):=by
        have h:=HN3.out.2.2;rw[←hkD,←hd] at h;by_cases h60:d.toNat=60
        ·exact .inl (by rw[aR];omega)
        ·exact .inr ⟨by rw[az];omega,by rw[aR];omega⟩
      have HK:=aa hkD;clear hkD hd;rcases f3 with f3|⟨f3,f4⟩
      all_goals (
        go_wp2_with (
          (go_at_call 85;refine(gK d _).mono ?_;rintro e w' ⟨rfl,rfl⟩))
        go_region;all_goals (
          obtain⟨m1,m2,mb,mo⟩:=iB (.int .i64 5) (.int .i64 (x:Int)) (.int .i64 (k:Int)) (.bool false) (.int .i64 0) (.slice A L.length c) (.bool false) HB.out.2.1 HB.out.2.2.1 (by omega) HB.out.2.2.2.1 (by omega) (by omega) _ rfl;have mo:=mo (HB.out.2.2.2.2.2) (by decide) (by decide);generalize World.setCell _ _ _=W5 at m1 m2 mb mo ⊢;obtain⟨s0,s1,s2,s3,_⟩:=m1.four;obtain⟨t0,t1,t2,_⟩:=m2.three;try go_wp2
          refine aK (v:=.tuple #[jQ ⟨5,x,x+D,false⟩,ik (⟨0,L,false⟩:Lx).aw (.slice A L.length c) (⟨0,L,false⟩:Lx).bd]) (by simp[results,Tryz.results60,go_sem,ik,jQ,s0,s1,s2,s3,t0,t1,t2,←HK.out]) rfl ?_;exact⟨_,rfl,⟨_,rfl,mo⟩,by first|exact mb|exact dN mb 1⟩))
     ·have e3:(eT d==6)=true:=hdig;have hno2:∀j,x≤j→j<k+1→gz (l.getD j 0)=true:=fun j h1 h2=>by
        by_cases e:j=k
        ·subst e;rw[←hd];exact hdig
        ·exact hno j h1 (by omega)
      have HN:=aa hno2;clear hno hno2 hd hdig;go_wp2_with (
        (go_at_call 85;refine(gK d _).mono ?_;rintro e w' ⟨rfl,rfl⟩))
      exact⟨⟨k+1,by omega,by omega,by go_num,HN.out⟩,by simp[intOf]<;>omega⟩
    ·obtain rfl:k=l.length:=by omega
     have hkD:l.length=x+D:=by
       rcases bZ (x+D) l.length with h|h
       ·have h2:=oo gz l x (by have:=HD0.out;show x+l8 l x<_;omega);rw[show fN gz l x=D from HD0.out.symm,hno _ (by omega) h] at h2
        cases h2
       ·omega
     clear hno;exact absurd HN3.out.2.1 (by omega)
theorem x8 (hl:l.length≤900) (hx:x<l.length) (hbd:X.bd=false) (hnb:fF l x=x) (h10:(l.getD x 0).toNat≠10) (h35:(l.getD x 0).toNat≠35) (hop:(fp l x).2=0) (hnum:mq l x=false) (haw:X.aw=0):lT l x X ⟨6,x,x+js l x,!lK (sub l x (x+js l x))⟩ ⟨0,X.pd,false⟩:=by
  have hbc:∀W,iG 105 #[.string ⟨l.toArray⟩,.int .i64 (x:Int)] W (.int .i64 (x:Int)):=fun W=>by
    have h:=jW l x W (by omega) (by omega)
    rwa [hnb] at h
  obtain⟨g1,g2⟩:=jz l x hx;obtain⟨cc,hcc⟩:∃cc,cc=l.getD x 0:=⟨_,rfl⟩;rw[←hcc] at g2 h10 h35;have u1:(x:Int)<(l.length:Int):=by omega
  have u2:(0:Int)≤(x:Int):=by omega
  have b1:((cc.toNat:Int)==10)=false:=by rw[az];omega
  have b2:((cc.toNat:Int)==35)=false:=by rw[az];omega
  have hoc:∀W,iG 106 #[.string ⟨l.toArray⟩,.int .i64 (x:Int)] W (.int .i64 0):=fun W=>by
    obtain⟨hs1,hs2,hs3⟩:=oC l x hx;have h17:(fp l x).1≤17:=by rw[←hs1];exact jI _ _
    have h0:(fp l x).1=0:=by
      rw[hop] at hs2;by_cases h:(fp l x).1=0
      ·exact h
      ·exfalso
       have:((List.range 17).all fun k=>decide (0<(gO (k+1)).length))=true:=by decide
       have h1:=bS.1 this ((fp l x).1-1) (cI.2 (by omega));rw[show (fp l x).1-1+1=(fp l x).1 by omega,hs2] at h1;simp at h1
    have h:=tT l x W (by omega) (by omega)
    rwa [hs1,h0] at h
  obtain⟨D,hD⟩:∃D,D=l8 l x:=⟨_,rfl⟩;have hDl:D≤l.length-x:=by rw[hD];exact iJ gz l x
  have hn3:D=0∨x+D=l.length∨(x+D<l.length∧(l.getD (x+D) 0).toNat≠60∧(l.getD (x+D) 0).toNat≠62):=by
    unfold mq at hnum;rw[←hD] at hnum;by_cases h1:D=0
    ·exact .inl h1
    ·by_cases h2:x+D<l.length
     ·refine .inr (.inr ⟨h2,fun h=>?_,fun h=>?_⟩)
      ·rw[aG (by omega:0<D),aG h2,h] at hnum;cases hnum
      ·rw[aG (by omega:0<D),aG h2,h] at hnum;cases hnum
     ·exact .inr (.inl (by omega))
  have hel:=tf l x;have hen:∀W,jL 107 #[.string ⟨l.toArray⟩,.int .i64 (x:Int)] W (.int .i64 ((x+js l x:Nat):Int)):=fun W=>EP l x W hl (by omega)
  obtain⟨E,hE⟩:∃E,E=x+js l x:=⟨_,rfl⟩;rw[←hE] at hen ⊢;have hxE:x≤E:=by omega
  have hEl:E≤l.length:=by omega
  have hsh:∀W,jL 109 #[.string ((ByteArray.mk l.toArray).extract x E)] W (.bool (lK (sub l x E))):=fun W=>by
    rw[dX];exact Ey (sub l x E) W (by rw[lJ hEl];omega)
  obtain⟨R,hR⟩:∃R,R=lK (sub l x E):=⟨_,rfl⟩;rw[←hR] at hsh ⊢;have HN3:=aa hn3;have HD0:=aa hD;clear hD hnum hn3 hcc hnb hop hE hR hel;intro A c w hr hn2;unfold ik;obtain⟨xa,L,xb⟩:=X;obtain rfl:xb=false:=hbd;obtain rfl:xa=0:=haw;have hr:Rt w 124 2 (.slice A L.length c) L.length (fj L):=hr;have hn2:L.length≤10000:=hn2;go_enter Tryz.func60,Tryz.ntmps60;go_wp2_with fail;obtain⟨W,hW,hw6,⟨⟨p0,p1,p2,p3,p4,p5⟩,⟨q0,q1,q2,q3,q4,q5,q6,q7⟩,⟨r0,r1,r2,r3,r4,r5⟩⟩,a1,a2,a3,a4,a5,a6⟩:=iZ w 0 false hr;rw[←hW];have HW:=aa hw6;clear hW hw6 hr;have HC:=aa hbc;have HO:=aa hoc;have HEN:=aa hen;have HSH:=aa hsh;clear hbc hoc hen hsh;have g1':(x:Int)≤(E:Int):=by omega
  have g2':(E:Int)≤(l.length:Int):=by omega
  go_upto_region 17 with (
    (go_at_call 105;with_reducible refine(HC.out _).mono ?_
     rintro e w' ⟨rfl,rfl⟩))
  refine ki fun WB hbB hkB hsB=>?_
  clear p0 p1 p2 p3 p4 p5 q0 q1 q2 q3 q4 q5 q6 q7 r0 r1 r2 r3 r4 r5;obtain⟨hb6,⟨⟨p0,p1,p2,p3,p4,p5⟩,⟨q0,q1,q2,q3,q4,q5,q6,q7⟩,⟨r0,r1,r2,r3,r4,r5⟩⟩,⟨v0,v1,v2,v3,v4,v5⟩,a7,a8,a9,a10,a11,a12⟩:=ou HW.out hbB hkB;have HB:=aa hb6;clear hb6 hkB hbB;go_wp2_with (
    (go_at_call 106;with_reducible refine(HO.out _).mono ?_
     rintro e w' ⟨rfl,rfl⟩))
  go_loop [14] (fun s=>∃k:Nat,x≤k∧k≤l.length∧s=.int .i64 (k:Int)∧∀j,x≤j→j<k→gz (l.getD j 0)=true) (fun s=>l.length-(intOf s).toNat)
  case atStart=>exact⟨x,au _,by omega,rfl,fun j h1 h2=>by omega⟩
  case round=>
    obtain⟨k,hxk,hkl,rfl,hno⟩:=hrel;by_cases hlt:k<l.length
    ·obtain⟨i1,i2⟩:=jz l k hlt;obtain⟨d,hd⟩:∃d,d=l.getD k 0:=⟨_,rfl⟩;rw[←hd] at i2;have e1:(k:Int)<(l.length:Int):=by omega
     have e2:(0:Int)≤(k:Int):=by omega
     cases hdig:gz d
     ·have e3:(eT d==6)=false:=hdig;have hkD:k=x+D:=by
        have:l8 l x=k-x:=om gz l x (k-x) (fun j hj=>hno _ (by omega) (by omega)) (by omega) (by rw[show x+(k-x)=k by omega,←hd];exact hdig)
        rw[HD0.out,this];omega
      clear hno hdig;have hw:(decide (x<k)=false∧decide ((x:Int)<(k:Int))=false)∨(decide (x<k)=true∧decide ((x:Int)<(k:Int))=true∧((d.toNat:Int)==60)=false∧((d.toNat:Int)==62)=false):=by
        by_cases h:x<k
        ·refine .inr ⟨aG h,aG (by omega),?_,?_⟩
         ·rw[az];intro hh;rcases HN3.out with h1|h1|⟨h1,h2,h3⟩
          ·omega
          ·omega
          ·rw[←hkD,←hd] at h2;omega
         ·rw[az];intro hh;rcases HN3.out with h1|h1|⟨h1,h2,h3⟩
          ·omega
          ·omega
          ·rw[←hkD,←hd] at h3;omega
        ·exact .inl ⟨aL h,aL (by omega)⟩
      clear hkD hd;rcases hw with ⟨f1,f2⟩|⟨f1,f2,f3,f4⟩
      all_goals (
        go_upto_region 31 with (first
            | (go_at_call 85;refine(gK d _).mono ?_;rintro e w' ⟨rfl,rfl⟩)
            | (go_at_call 107;with_reducible refine(HEN.out _).mono ?_
               rintro e w5 ⟨rfl,hb5⟩;have k0:=HB.out.1.below hb5 HB.out.1.lt;have k1:=HB.out.2.1.below hb5 HB.out.2.1.lt;have k2:=HB.out.2.2.1.below hb5 HB.out.2.2.1.lt;have kb:=HB.out.2.2.2.1.trans (hb5.mono HB.out.2.2.2.1.size);have kB:=HB.out.2.2.2.2.1.below hb5 HB.out.2.2.2.2.1.lt;have kr:=HB.out.2.2.2.2.2.next hb5;clear p0 p1 p2 p3 p4 p5 q0 q1 q2 q3 q4 q5 q6 q7 r0 r1 r2 r3 r4 r5 v0 v1 v2 v3 v4 v5;obtain⟨p0,p1,p2,p3,p4,p5⟩:=k0.three;obtain⟨q0,q1,q2,q3,q4,q5,q6,q7⟩:=k1.four;obtain⟨r0,r1,r2,r3,r4,r5⟩:=k2.three;obtain⟨v0,v1,v2,v3,v4,v5⟩:=kB.three;have H5:=aa (ac k0 (ac k1 (ac k2 (ac kb (ac kB kr)))));clear hb5 k0 k1 k2 kb kB kr))
        go_region_held3 (fun w'=>w'.cell? ⟨W.heap.size,0,none⟩=some (.int .i64 0)∧w'.cell? ⟨W.heap.size,1,none⟩=some (.slice A L.length c)∧w'.cell? ⟨W.heap.size,2,none⟩=some (.bool false))
          (first
            | with_reducible exact⟨v0,v1,v2⟩
            | go_keep)
          ((go_at_call 109;with_reducible refine(HSH.out _).mono ?_
            rintro e w6 ⟨rfl,hb6⟩;have hb6:Below w5.heap.size w5 w6:=by first|exact hb6|exact(dN (aC _ w5) 1).trans hb6
            have k1:=H5.out.2.1.below hb6 H5.out.2.1.lt;have k2:=H5.out.2.2.1.below hb6 H5.out.2.2.1.lt;have kb:=H5.out.2.2.2.1.trans (hb6.mono H5.out.2.2.2.1.size);have kB:=H5.out.2.2.2.2.1.below hb6 H5.out.2.2.2.2.1.lt;have kr:=H5.out.2.2.2.2.2.next hb6;clear p0 p1 p2 p3 p4 p5 q0 q1 q2 q3 q4 q5 q6 q7 r0 r1 r2 r3 r4 r5 v0 v1 v2 v3 v4 v5;obtain⟨q0,q1,q2,q3,q4,q5,q6,q7⟩:=k1.four;obtain⟨r0,r1,r2,r3,r4,r5⟩:=k2.three;obtain⟨v0,v1,v2,v3,v4,v5⟩:=kB.three;have H6:=aa (ac trivial (ac k1 (ac k2 (ac kb (ac kB kr)))));clear hb6 k1 k2 kb kB kr))
        all_goals (
          obtain⟨m1,m2,mb,mo⟩:=iB (.int .i64 6) (.int .i64 (x:Int)) (.int .i64 (E:Int)) (.bool (!R)) (.int .i64 0) (.slice A L.length c) (.bool false) H6.out.2.1 H6.out.2.2.1 (by omega) H6.out.2.2.2.1 (by omega) (by omega) _ rfl;have mo:=mo (H6.out.2.2.2.2.2) (by decide) (by decide);generalize World.setCell _ _ _=W5 at m1 m2 mb mo ⊢;obtain⟨s0,s1,s2,s3,_⟩:=m1.four;obtain⟨t0,t1,t2,_⟩:=m2.three;try go_wp2
          refine aK (v:=.tuple #[jQ ⟨6,x,E,!R⟩,ik (⟨0,L,false⟩:Lx).aw (.slice A L.length c) (⟨0,L,false⟩:Lx).bd]) (by simp[results,Tryz.results60,go_sem,ik,jQ,s0,s1,s2,s3,t0,t1,t2]) rfl ?_;exact⟨_,rfl,⟨_,rfl,mo⟩,by first|exact mb|exact dN mb 1⟩))
     ·have e3:(eT d==6)=true:=hdig;have hno2:∀j,x≤j→j<k+1→gz (l.getD j 0)=true:=fun j h1 h2=>by
        by_cases e:j=k
        ·subst e;rw[←hd];exact hdig
        ·exact hno j h1 (by omega)
      have HN:=aa hno2;clear hno hno2 hd hdig;go_wp2_with (
        (go_at_call 85;refine(gK d _).mono ?_;rintro e w' ⟨rfl,rfl⟩))
      exact⟨⟨k+1,by omega,by omega,by go_num,HN.out⟩,by simp[intOf]<;>omega⟩
    ·obtain rfl:k=l.length:=by omega
     have hkD:l.length=x+D:=by
       rcases bZ (x+D) l.length with h|h
       ·have h2:=oo gz l x (by have:=HD0.out;show x+l8 l x<_;omega);rw[show fN gz l x=D from HD0.out.symm,hno _ (by omega) h] at h2
        cases h2
       ·omega
     clear hno;have f1:decide (x<l.length)=true:=aG hx;have f2:decide ((x:Int)<(l.length:Int))=true:=aG u1;clear hkD
     go_upto_region 31 with (first
         | (go_at_call 85;refine(gK d _).mono ?_;rintro e w' ⟨rfl,rfl⟩)
         | (go_at_call 107;with_reducible refine(HEN.out _).mono ?_
            rintro e w5 ⟨rfl,hb5⟩;have k0:=HB.out.1.below hb5 HB.out.1.lt;have k1:=HB.out.2.1.below hb5 HB.out.2.1.lt;have k2:=HB.out.2.2.1.below hb5 HB.out.2.2.1.lt;have kb:=HB.out.2.2.2.1.trans (hb5.mono HB.out.2.2.2.1.size);have kB:=HB.out.2.2.2.2.1.below hb5 HB.out.2.2.2.2.1.lt;have kr:=HB.out.2.2.2.2.2.next hb5;clear p0 p1 p2 p3 p4 p5 q0 q1 q2 q3 q4 q5 q6 q7 r0 r1 r2 r3 r4 r5 v0 v1 v2 v3 v4 v5;obtain⟨p0,p1,p2,p3,p4,p5⟩:=k0.three;obtain⟨q0,q1,q2,q3,q4,q5,q6,q7⟩:=k1.four;obtain⟨r0,r1,r2,r3,r4,r5⟩:=k2.three;obtain⟨v0,v1,v2,v3,v4,v5⟩:=kB.three;have H5:=aa (ac k0 (ac k1 (ac k2 (ac kb (ac kB kr)))));clear hb5 k0 k1 k2 kb kB kr))
     go_region_held3 (fun w'=>w'.cell? ⟨W.heap.size,0,none⟩=some (.int .i64 0)∧w'.cell? ⟨W.heap.size,1,none⟩=some (.slice A L.length c)∧w'.cell? ⟨W.heap.size,2,none⟩=some (.bool false))
       (first
         | with_reducible exact⟨v0,v1,v2⟩
         | go_keep)
       ((go_at_call 109;with_reducible refine(HSH.out _).mono ?_
         rintro e w6 ⟨rfl,hb6⟩;have hb6:Below w5.heap.size w5 w6:=by first|exact hb6|exact(dN (aC _ w5) 1).trans hb6
         have k1:=H5.out.2.1.below hb6 H5.out.2.1.lt;have k2:=H5.out.2.2.1.below hb6 H5.out.2.2.1.lt;have kb:=H5.out.2.2.2.1.trans (hb6.mono H5.out.2.2.2.1.size);have kB:=H5.out.2.2.2.2.1.below hb6 H5.out.2.2.2.2.1.lt;have kr:=H5.out.2.2.2.2.2.next hb6;clear p0 p1 p2 p3 p4 p5 q0 q1 q2 q3 q4 q5 q6 q7 r0 r1 r2 r3 r4 r5 v0 v1 v2 v3 v4 v5;obtain⟨q0,q1,q2,q3,q4,q5,q6,q7⟩:=k1.four;obtain⟨r0,r1,r2,r3,r4,r5⟩:=k2.three;obtain⟨v0,v1,v2,v3,v4,v5⟩:=kB.three;have H6:=aa (ac trivial (ac k1 (ac k2 (ac kb (ac kB kr)))));clear hb6 k1 k2 kb kB kr))
     all_goals (
       obtain⟨m1,m2,mb,mo⟩:=iB (.int .i64 6) (.int .i64 (x:Int)) (.int .i64 (E:Int)) (.bool (!R)) (.int .i64 0) (.slice A L.length c) (.bool false) H6.out.2.1 H6.out.2.2.1 (by omega) H6.out.2.2.2.1 (by omega) (by omega) _ rfl;have mo:=mo (H6.out.2.2.2.2.2) (by decide) (by decide);generalize World.setCell _ _ _=W5 at m1 m2 mb mo ⊢;obtain⟨s0,s1,s2,s3,_⟩:=m1.four;obtain⟨t0,t1,t2,_⟩:=m2.three;try go_wp2
       refine aK (v:=.tuple #[jQ ⟨6,x,E,!R⟩,ik (⟨0,L,false⟩:Lx).aw (.slice A L.length c) (⟨0,L,false⟩:Lx).bd]) (by simp[results,Tryz.results60,go_sem,ik,jQ,s0,s1,s2,s3,t0,t1,t2]) rfl ?_;exact⟨_,rfl,⟨_,rfl,mo⟩,by first|exact mb|exact dN mb 1⟩)
theorem Aw (hl:l.length≤900) (hx:x<l.length) (hbd:X.bd=true) (d:Dl) (r:List Dl) (hX:X.pd=d::r) (hok:(gm l x d.1 d.2).2=false):lT l x X ⟨7,x,(gm l x d.1 d.2).1,true⟩ X:=by
  have hhc:∀W,jL 104 #[.string ⟨l.toArray⟩,.int .i64 (x:Int),.agg #[.string ⟨d.1.toArray⟩,.bool d.2]] W (.tuple #[.int .i64 ((gm l x d.1 d.2).1:Int),.int .i64 0]):=fun W=>by
    have h:=BY l d.1 d.2 x W (by omega) (by omega);rw[hok] at h;exact h
  obtain⟨E,hE⟩:∃E,E=(gm l x d.1 d.2).1:=⟨_,rfl⟩;rw[←hE] at hhc ⊢;clear hE hok;have HXX:=aa hX;clear hX;intro A c w hr hn2;unfold ik;obtain⟨xa,L,xb⟩:=X;obtain rfl:xb=true:=hbd;have hr:Rt w 124 2 (.slice A L.length c) L.length (fj L):=hr;have hn2:L.length≤10000:=hn2;go_enter Tryz.func60,Tryz.ntmps60;go_upto_region 1 with fail
  obtain⟨W,hW,hw6,⟨⟨p0,p1,p2,p3,p4,p5⟩,⟨q0,q1,q2,q3,q4,q5,q6,q7⟩,⟨r0,r1,r2,r3,r4,r5⟩⟩,a1,a2,a3,a4,a5,a6⟩:=iZ w xa true hr;rw[←hW];have HW:=aa hw6;clear hW hw6 hr;have HHC:=aa hhc;have hX:L=d::r:=HXX.out;have hLl:L.length=r.length+1:=by rw[hX];rfl
  have hrd:=HW.out.2.2.2.2.2.rd;rw[show fj L=fj (d::r) by rw[hX]] at hrd;obtain⟨g,o,hA,hg,hnc,hcm,y0,y1⟩:=tG hrd hLl;subst hA;have HX:=aa (ac hX hLl);have n1:(0:Int)<(L.length:Int):=by omega
  have n2:0<L.length:=by omega
  have n3:(1:Int)≤(L.length:Int):=by omega
  have n4:(L.length:Int)≤(c:Int):=by omega
  clear hhc hrd hX hLl;go_wp2_with (
    (go_at_call 104;with_reducible refine(HHC.out _).mono ?_
     rintro e w5 ⟨rfl,hb5⟩;have k0:=HW.out.1.below hb5 HW.out.1.lt;have k1:=HW.out.2.1.below hb5 HW.out.2.1.lt;have k2:=HW.out.2.2.1.below hb5 HW.out.2.2.1.lt;have kb:=HW.out.2.2.2.1.trans (hb5.mono HW.out.2.2.2.1.size);have kr:=HW.out.2.2.2.2.2.next hb5;clear p0 p1 p2 p3 p4 p5 q0 q1 q2 q3 q4 q5 q6 q7 r0 r1 r2 r3 r4 r5;obtain⟨p0,p1,p2,p3,p4,p5⟩:=k0.three;obtain⟨q0,q1,q2,q3,q4,q5,q6,q7⟩:=k1.four;obtain⟨r0,r1,r2,r3,r4,r5⟩:=k2.three;have H5:=aa (ac k0 (ac k1 (ac k2 (ac kb kr))));clear hb5 k0 k1 k2 kb kr))
  go_region;all_goals (
    obtain⟨m1,m2,mb,mo⟩:=iB (.int .i64 7) (.int .i64 (x:Int)) (.int .i64 (E:Int)) (.bool true) (.int .i64 xa) (.slice (some ⟨g,o,none⟩) L.length c) (.bool true) H5.out.2.1 H5.out.2.2.1 (by omega) H5.out.2.2.2.1 (by omega) (by omega) _ rfl;have mo:=mo (H5.out.2.2.2.2) (by decide) (by decide);generalize World.setCell _ _ _=W5 at m1 m2 mb mo ⊢;obtain⟨s0,s1,s2,s3,_⟩:=m1.four;obtain⟨t0,t1,t2,_⟩:=m2.three;try go_wp2
    refine aK (v:=.tuple #[jQ ⟨7,x,E,true⟩,ik (⟨xa,L,true⟩:Lx).aw (.slice (some ⟨g,o,none⟩) L.length c) (⟨xa,L,true⟩:Lx).bd]) (by simp[results,Tryz.results60,go_sem,ik,jQ,s0,s1,s2,s3,t0,t1,t2]) rfl ?_;exact⟨_,rfl,⟨_,rfl,mo⟩,by first|exact mb|exact dN mb 1⟩)
theorem As (hl:l.length≤900) (hx:x<l.length) (hbd:X.bd=true) (d:Dl) (r:List Dl) (hX:X.pd=d::r) (hok:(gm l x d.1 d.2).2=true):lT l x X ⟨7,x,(gm l x d.1 d.2).1,false⟩ ⟨X.aw,r,!r.isEmpty⟩:=by
  have hhc:∀W,jL 104 #[.string ⟨l.toArray⟩,.int .i64 (x:Int),.agg #[.string ⟨d.1.toArray⟩,.bool d.2]] W (.tuple #[.int .i64 ((gm l x d.1 d.2).1:Int),.int .i64 1]):=fun W=>by
    have h:=BY l d.1 d.2 x W (by omega) (by omega);rw[hok] at h;exact h
  obtain⟨E,hE⟩:∃E,E=(gm l x d.1 d.2).1:=⟨_,rfl⟩;rw[←hE] at hhc ⊢;clear hE hok;have HXX:=aa hX;clear hX;intro A c w hr hn2;unfold ik;obtain⟨xa,L,xb⟩:=X;obtain rfl:xb=true:=hbd;have hr:Rt w 124 2 (.slice A L.length c) L.length (fj L):=hr;have hn2:L.length≤10000:=hn2;go_enter Tryz.func60,Tryz.ntmps60;go_upto_region 1 with fail
  obtain⟨W,hW,hw6,⟨⟨p0,p1,p2,p3,p4,p5⟩,⟨q0,q1,q2,q3,q4,q5,q6,q7⟩,⟨r0,r1,r2,r3,r4,r5⟩⟩,a1,a2,a3,a4,a5,a6⟩:=iZ w xa true hr;rw[←hW];have HW:=aa hw6;clear hW hw6 hr;have HHC:=aa hhc;have hX:L=d::r:=HXX.out;have hLl:L.length=r.length+1:=by rw[hX];rfl
  have hrd:=HW.out.2.2.2.2.2.rd;rw[show fj L=fj (d::r) by rw[hX]] at hrd;obtain⟨g,o,hA,hg,hnc,hcm,y0,y1⟩:=tG hrd hLl;subst hA;have HX:=aa (ac hX hLl);have n1:(0:Int)<(L.length:Int):=by omega
  have n2:0<L.length:=by omega
  have n3:(1:Int)≤(L.length:Int):=by omega
  have n4:(L.length:Int)≤(c:Int):=by omega
  clear hhc hrd hX hLl;go_wp2_with (
    (go_at_call 104;with_reducible refine(HHC.out _).mono ?_
     rintro e w5 ⟨rfl,hb5⟩;have k0:=HW.out.1.below hb5 HW.out.1.lt;have k1:=HW.out.2.1.below hb5 HW.out.2.1.lt;have k2:=HW.out.2.2.1.below hb5 HW.out.2.2.1.lt;have kb:=HW.out.2.2.2.1.trans (hb5.mono HW.out.2.2.2.1.size);have kr:=HW.out.2.2.2.2.2.next hb5;clear p0 p1 p2 p3 p4 p5 q0 q1 q2 q3 q4 q5 q6 q7 r0 r1 r2 r3 r4 r5;obtain⟨p0,p1,p2,p3,p4,p5⟩:=k0.three;obtain⟨q0,q1,q2,q3,q4,q5,q6,q7⟩:=k1.four;obtain⟨r0,r1,r2,r3,r4,r5⟩:=k2.three;have H5:=aa (ac k0 (ac k1 (ac k2 (ac kb kr))));clear hb5 k0 k1 k2 kb kr))
  have hrt:=H5.out.2.2.2.2;rw[show fj L=fj (d::r) by rw[HX.out.1]] at hrt;have hrt2:=IQ hrt HX.out.2;have hbv:decide ((1:Int)<(L.length:Int)) = !r.isEmpty:=by rw[HX.out.2];cases r<;>simp<;>omega
  have hlen:L.length-1=r.length:=by rw[HX.out.2];rfl
  have HR:=aa (ac hrt2 (ac hbv hlen));clear hrt hrt2 hbv hlen
  go_region_held3 (fun w'=>w'.cell? ⟨w.heap.size,0,none⟩=some (.int .i64 xa)∧w'.cell? ⟨w.heap.size,1,none⟩=some (.slice (some ⟨g,o,none⟩) L.length c)∧w'.cell? ⟨w.heap.size,2,none⟩=some (.bool true))
    (first
      | with_reducible exact⟨p0,p1,p2⟩
      | go_keep)
    (fail)
  all_goals (
    generalize (if c=1 then some (⟨g,o,none⟩:Addr) else some ⟨g,o+2,none⟩)=AA at *;obtain⟨m1,m2,mb,mo⟩:=iB (.int .i64 7) (.int .i64 (x:Int)) (.int .i64 (E:Int)) (.bool false) (.int .i64 xa) (.slice AA (L.length-1) (c-1)) (.bool (decide ((1:Int)<(L.length:Int)))) H5.out.2.1 H5.out.2.2.1 (by omega) H5.out.2.2.2.1 (by omega) (by omega) _ rfl;have mo:=mo (HR.out.1) (by decide) (by decide);generalize World.setCell _ _ _=W5 at m1 m2 mb mo ⊢;obtain⟨s0,s1,s2,s3,_⟩:=m1.four;obtain⟨t0,t1,t2,_⟩:=m2.three;try go_wp2
    refine aK (v:=.tuple #[jQ ⟨7,x,E,false⟩,ik (⟨xa,r,!r.isEmpty⟩:Lx).aw (.slice AA (L.length-1) (c-1)) (⟨xa,r,!r.isEmpty⟩:Lx).bd]) (by simp[results,Tryz.results60,go_sem,ik,jQ,s0,s1,s2,s3,t0,t1,t2,HR.out.2.1]) rfl ?_;exact⟨_,rfl,⟨_,rfl,by rw[←HR.out.2.2];exact mo⟩,by first|exact mb|exact dN mb 1⟩)
end Go.Proofs.YtcagfamdoaoimaaGreatDoor
