/- quillwortref09.Step: a token as the reference finds it, case by case. -/
import Derived.Test.YtnclfgkpcpcapaaGreatDoorSp9
import Derived.Test.YtnclfgkpcpcapaaGreatDoorRb9
import Derived.Test.YtnclfgkpcpcapaaGreatDoorSh9
import Derived.IntWalk
import Derived.Deep.CutBlock
namespace Go.Proofs.YtnclfgkpcpcapaaGreatDoor
open Go.RowKit
set_option linter.unusedVariables false
set_option linter.unusedSimpArgs false
set_option maxRecDepth 100000
theorem rt_tail {w:World} {e:TypeId} {d:Dl} {r:List Dl} {g o n c:Nat} (h:Rt w e 2 (.slice (some ⟨g,o,none⟩) n c) n (dcls (d::r))) (hn:n=r.length+1) :
    Rt w e 2 (.slice (if c=1 then some ⟨g,o,none⟩ else some ⟨g,o+2,none⟩) (n-1) (c-1)) (n-1) (dcls r):=by
  obtain⟨h1,A',c',h2,h3,h4,h5,h6⟩:=h
  cases h2
  refine⟨by rw[dcls_len];omega,_,_,rfl,by omega,by omega,(fun h=>by split at h<;>cases h),fun h0=>?_⟩
  obtain⟨g',o',cur,fr,ha,hb,hc⟩:=h6 (by omega)
  cases ha
  refine⟨g,o+2,cur,fr,by rw[if_neg (by omega)],hb,fun j u hj=>?_⟩
  have:=hc (j+2) u (by show (dcl d++dcls r)[j+2]? = _;rw[List.getElem?_append_right (by show 2≤j+2;omega)];exact hj)
  rw[show o+2+j=o+(j+2) by omega]
  exact this
def StepR (l:List UInt8) (x:Nat) (X:Lx) (T:Tk) (Y:Lx):Prop:=∀(A:Option Addr) (c:Nat) (w:World),Rt w 73 2 (.slice A X.pd.length c) X.pd.length (dcls X.pd)→X.pd.length≤10000 →
    Calls Tryz.prog 30 #[.string ⟨l.toArray⟩,.int .i64 (x:Int),lxv X.aw (.slice A X.pd.length c) X.bd] w fun e w'=>∃v,e=.returned (.tuple #[tkv T,v])∧LxP w' Y v∧Below w.heap.size w w'
set_option maxHeartbeats 2000000 in
theorem rstep_blank (l:List UInt8) (x:Nat) (X:Lx) (hl:l.length≤900) (hx:x<l.length) (hbd:X.bd=false) (hb:x<blankL l x):StepR l x X ⟨1,x,blankL l x,false⟩ X:=by
  have hbc:∀W,Calls Tryz.prog 36 #[.string ⟨l.toArray⟩,.int .i64 (x:Int)] W fun e w'=>e=.returned (.int .i64 ((blankL l x:Nat):Int))∧W=w':=fun W=>rblank_m l x W (by omega) (by omega)
  have hble:blankL l x≤l.length:=(blankL_le l _ x rfl (by omega)).2
  obtain⟨E,hE⟩:∃E,E=blankL l x:=⟨_,rfl⟩
  rw[←hE] at hbc hb hble ⊢
  clear hE
  have HC:=Lib.hid hbc
  clear hbc
  have d1:decide ((x:Int)<(E:Int))=true:=decide_eq_true (by omega)
  have d2:decide (x<E)=true:=decide_eq_true hb
  intro A c w hr hn2
  unfold lxv
  obtain⟨xa,L,xb⟩:=X
  obtain rfl:xb=false:=hbd
  have hr:Rt w 73 2 (.slice A L.length c) L.length (dcls L):=hr
  have hn2:L.length≤10000:=hn2
  go_enter Tryz.func30,Tryz.ntmps30
  go_wp2_with fail
  obtain⟨W,hW⟩:∃W,W=(((w.alloc (.cells #[.int .i64 xa,.slice A L.length c,.bool false] 45)).alloc (.cells #[.int .i64 0,.int .i64 0,.int .i64 0,.bool false] 40)).alloc (.cells #[.int .i64 0,.slice none 0 0,.bool false] 45)):=⟨_,rfl⟩
  have k0:Bk W w.heap.size 45 #[.int .i64 xa,.slice A L.length c,.bool false]:=by rw[hW];exact((Bk.new w _ _).alloc _).alloc _
  have k1:Bk W (w.heap.size+1) 40 #[.int .i64 0,.int .i64 0,.int .i64 0,.bool false]:=by rw[hW];exact(bk_second w _ _ _ _).alloc _
  have k2:Bk W (w.heap.size+1+1) 45 #[.int .i64 0,.slice none 0 0,.bool false]:=by rw[hW];simpa using Bk.new ((w.alloc _).alloc _) 45 _
  have hbw:Below w.heap.size w W:=by rw[hW];exact(((Below.refl _ w).alloc (Nat.le_refl _) _).alloc (by simp) _).alloc (by simp<;>omega) _
  have hbw2:Below w.heap.size w W:=hbw
  have hsz:W.heap.size=w.heap.size+3:=by rw[hW];simp
  have hrW:Rt W 73 2 (.slice A L.length c) L.length (dcls L):=hr.next hbw
  rw[←hW]
  obtain⟨p0,p1,p2,p3,p4,p5⟩:=k0.three
  obtain⟨q0,q1,q2,q3,q4,q5,q6,q7⟩:=k1.four
  obtain⟨r0,r1,r2,r3,r4,r5⟩:=k2.three
  have HW:=Lib.hid (And.intro k0 (And.intro k1 (And.intro k2 (And.intro hbw (And.intro hsz hrW)))))
  have a1:¬w.heap.size=w.heap.size+1:=by omega
  have a2:¬w.heap.size=w.heap.size+1+1:=by omega
  have a3:¬w.heap.size+1=w.heap.size+1+1:=by omega
  have a4:¬w.heap.size+1+1=w.heap.size+1:=by omega
  have a5:¬w.heap.size+1=w.heap.size:=by omega
  have a6:¬w.heap.size+1+1=w.heap.size:=by omega
  clear hW k0 k1 k2 hbw hbw2 hrW hr hsz
  go_wp2_with (
    (go_at_call 36
     with_reducible refine(HC.out _).mono ?_
     rintro e w' ⟨rfl,rfl⟩))
  go_region
  all_goals (
    obtain⟨m1,m2,mb,mo⟩:=fin_td (.int .i64 1) (.int .i64 (x:Int)) (.int .i64 (E:Int)) (.bool false) (.int .i64 xa) (.slice A L.length c) (.bool false) HW.out.2.1 HW.out.2.2.1 (by omega) HW.out.2.2.2.1 (by omega) (by omega) _ rfl
    have mo:=mo (HW.out.2.2.2.2.2) (by decide) (by decide)
    generalize World.setCell _ _ _=W5 at m1 m2 mb mo ⊢
    obtain⟨s0,s1,s2,s3,_⟩:=m1.four
    obtain⟨t0,t1,t2,_⟩:=m2.three
    try go_wp2
    refine bodyPost_ret (v:=.tuple #[tkv ⟨1,x,E,false⟩,lxv (⟨xa,L,false⟩:Lx).aw (.slice A L.length c) (⟨xa,L,false⟩:Lx).bd]) (by simp[results,Tryz.results30,go_sem,lxv,tkv,s0,s1,s2,s3,t0,t1,t2]) rfl ?_
    exact⟨_,rfl,⟨_,rfl,mo⟩,by first|exact mb|exact below_drewN' mb 1⟩)
set_option maxHeartbeats 2000000 in
theorem rstep_nl (l:List UInt8) (x:Nat) (X:Lx) (hl:l.length≤900) (hx:x<l.length) (hbd:X.bd=false) (hnb:blankL l x=x) (h10:(l.getD x 0).toNat=10):StepR l x X ⟨2,x,x+1,false⟩ ⟨0,X.pd,!X.pd.isEmpty⟩:=by
  have hbc:∀W,Calls Tryz.prog 36 #[.string ⟨l.toArray⟩,.int .i64 (x:Int)] W fun e w'=>e=.returned (.int .i64 (x:Int))∧W=w':=fun W=>by
    have h:=rblank_m l x W (by omega) (by omega)
    rwa [hnb] at h
  obtain⟨g1,g2⟩:=ba_at l x hx
  obtain⟨cc,hcc⟩:∃cc,cc=l.getD x 0:=⟨_,rfl⟩
  rw[←hcc] at g2 h10
  have u1:(x:Int)<(l.length:Int):=by omega
  have u2:(0:Int)≤(x:Int):=by omega
  have b1:((cc.toNat:Int)==10)=true:=by rw[beq_iff_eq];omega
  have hdl:decide (0<X.pd.length) = !X.pd.isEmpty:=by cases X.pd<;>rfl
  clear hcc hnb
  intro A c w hr hn2
  unfold lxv
  obtain⟨xa,L,xb⟩:=X
  obtain rfl:xb=false:=hbd
  have hr:Rt w 73 2 (.slice A L.length c) L.length (dcls L):=hr
  have hn2:L.length≤10000:=hn2
  go_enter Tryz.func30,Tryz.ntmps30
  go_wp2_with fail
  obtain⟨W,hW⟩:∃W,W=(((w.alloc (.cells #[.int .i64 xa,.slice A L.length c,.bool false] 45)).alloc (.cells #[.int .i64 0,.int .i64 0,.int .i64 0,.bool false] 40)).alloc (.cells #[.int .i64 0,.slice none 0 0,.bool false] 45)):=⟨_,rfl⟩
  have k0:Bk W w.heap.size 45 #[.int .i64 xa,.slice A L.length c,.bool false]:=by rw[hW];exact((Bk.new w _ _).alloc _).alloc _
  have k1:Bk W (w.heap.size+1) 40 #[.int .i64 0,.int .i64 0,.int .i64 0,.bool false]:=by rw[hW];exact(bk_second w _ _ _ _).alloc _
  have k2:Bk W (w.heap.size+1+1) 45 #[.int .i64 0,.slice none 0 0,.bool false]:=by rw[hW];simpa using Bk.new ((w.alloc _).alloc _) 45 _
  have hbw:Below w.heap.size w W:=by rw[hW];exact(((Below.refl _ w).alloc (Nat.le_refl _) _).alloc (by simp) _).alloc (by simp<;>omega) _
  have hbw2:Below w.heap.size w W:=hbw
  have hsz:W.heap.size=w.heap.size+3:=by rw[hW];simp
  have hrW:Rt W 73 2 (.slice A L.length c) L.length (dcls L):=hr.next hbw
  rw[←hW]
  obtain⟨p0,p1,p2,p3,p4,p5⟩:=k0.three
  obtain⟨q0,q1,q2,q3,q4,q5,q6,q7⟩:=k1.four
  obtain⟨r0,r1,r2,r3,r4,r5⟩:=k2.three
  have HW:=Lib.hid (And.intro k0 (And.intro k1 (And.intro k2 (And.intro hbw (And.intro hsz hrW)))))
  have a1:¬w.heap.size=w.heap.size+1:=by omega
  have a2:¬w.heap.size=w.heap.size+1+1:=by omega
  have a3:¬w.heap.size+1=w.heap.size+1+1:=by omega
  have a4:¬w.heap.size+1+1=w.heap.size+1:=by omega
  have a5:¬w.heap.size+1=w.heap.size:=by omega
  have a6:¬w.heap.size+1+1=w.heap.size:=by omega
  clear hW k0 k1 k2 hbw hbw2 hrW hr hsz
  have HC:=Lib.hid hbc
  clear hbc
  have hdl:decide (0<L.length) = !L.isEmpty:=hdl
  have HD:=Lib.hid hdl
  clear hdl
  go_wp2_with (
    (go_at_call 36
     with_reducible refine(HC.out _).mono ?_
     rintro e w' ⟨rfl,rfl⟩))
  go_region
  all_goals (
    obtain⟨m1,m2,mb,mo⟩:=fin_td (.int .i64 2) (.int .i64 (x:Int)) (.int .i64 ((x:Int)+1)) (.bool false) (.int .i64 0) (.slice A L.length c) (.bool (!L.isEmpty)) HW.out.2.1 HW.out.2.2.1 (by omega) HW.out.2.2.2.1 (by omega) (by omega) _ rfl
    have mo:=mo (HW.out.2.2.2.2.2) (by decide) (by decide)
    generalize World.setCell _ _ _=W5 at m1 m2 mb mo ⊢
    obtain⟨s0,s1,s2,s3,_⟩:=m1.four
    obtain⟨t0,t1,t2,_⟩:=m2.three
    try go_wp2
    refine bodyPost_ret (v:=.tuple #[tkv ⟨2,x,x+1,false⟩,lxv (⟨0,L,!L.isEmpty⟩:Lx).aw (.slice A L.length c) (⟨0,L,!L.isEmpty⟩:Lx).bd]) (by simp[results,Tryz.results30,go_sem,lxv,tkv,s0,s1,s2,s3,t0,t1,t2]) rfl ?_
    exact⟨_,rfl,⟨_,rfl,mo⟩,by first|exact mb|exact below_drewN' mb 1⟩)
set_option maxHeartbeats 4000000 in
theorem rstep_comment (l:List UInt8) (x:Nat) (X:Lx) (hl:l.length≤900) (hx:x<l.length) (hbd:X.bd=false) (hnb:blankL l x=x) (h35:(l.getD x 0).toNat=35):StepR l x X ⟨3,x,lineN l x,false⟩ ⟨0,X.pd,false⟩:=by
  have hbc:∀W,Calls Tryz.prog 36 #[.string ⟨l.toArray⟩,.int .i64 (x:Int)] W fun e w'=>e=.returned (.int .i64 (x:Int))∧W=w':=fun W=>by
    have h:=rblank_m l x W (by omega) (by omega)
    rwa [hnb] at h
  obtain⟨g1,g2⟩:=ba_at l x hx
  obtain⟨cc,hcc⟩:∃cc,cc=l.getD x 0:=⟨_,rfl⟩
  rw[←hcc] at g2 h35
  have u1:(x:Int)<(l.length:Int):=by omega
  have u2:(0:Int)≤(x:Int):=by omega
  have b1:((cc.toNat:Int)==10)=false:=by rw[beq_eq_false_iff_ne];omega
  have b2:((cc.toNat:Int)==35)=true:=by rw[beq_iff_eq];omega
  obtain⟨E,hE⟩:∃E,E=lineN l x:=⟨_,rfl⟩
  rw[←hE]
  have HE:=Lib.hid hE
  clear hcc hnb hE
  intro A c w hr hn2
  unfold lxv
  obtain⟨xa,L,xb⟩:=X
  obtain rfl:xb=false:=hbd
  have hr:Rt w 73 2 (.slice A L.length c) L.length (dcls L):=hr
  have hn2:L.length≤10000:=hn2
  go_enter Tryz.func30,Tryz.ntmps30
  go_wp2_with fail
  obtain⟨W,hW⟩:∃W,W=(((w.alloc (.cells #[.int .i64 xa,.slice A L.length c,.bool false] 45)).alloc (.cells #[.int .i64 0,.int .i64 0,.int .i64 0,.bool false] 40)).alloc (.cells #[.int .i64 0,.slice none 0 0,.bool false] 45)):=⟨_,rfl⟩
  have k0:Bk W w.heap.size 45 #[.int .i64 xa,.slice A L.length c,.bool false]:=by rw[hW];exact((Bk.new w _ _).alloc _).alloc _
  have k1:Bk W (w.heap.size+1) 40 #[.int .i64 0,.int .i64 0,.int .i64 0,.bool false]:=by rw[hW];exact(bk_second w _ _ _ _).alloc _
  have k2:Bk W (w.heap.size+1+1) 45 #[.int .i64 0,.slice none 0 0,.bool false]:=by rw[hW];simpa using Bk.new ((w.alloc _).alloc _) 45 _
  have hbw:Below w.heap.size w W:=by rw[hW];exact(((Below.refl _ w).alloc (Nat.le_refl _) _).alloc (by simp) _).alloc (by simp<;>omega) _
  have hbw2:Below w.heap.size w W:=hbw
  have hsz:W.heap.size=w.heap.size+3:=by rw[hW];simp
  have hrW:Rt W 73 2 (.slice A L.length c) L.length (dcls L):=hr.next hbw
  rw[←hW]
  obtain⟨p0,p1,p2,p3,p4,p5⟩:=k0.three
  obtain⟨q0,q1,q2,q3,q4,q5,q6,q7⟩:=k1.four
  obtain⟨r0,r1,r2,r3,r4,r5⟩:=k2.three
  have HW:=Lib.hid (And.intro k0 (And.intro k1 (And.intro k2 (And.intro hbw (And.intro hsz hrW)))))
  have a1:¬w.heap.size=w.heap.size+1:=by omega
  have a2:¬w.heap.size=w.heap.size+1+1:=by omega
  have a3:¬w.heap.size+1=w.heap.size+1+1:=by omega
  have a4:¬w.heap.size+1+1=w.heap.size+1:=by omega
  have a5:¬w.heap.size+1=w.heap.size:=by omega
  have a6:¬w.heap.size+1+1=w.heap.size:=by omega
  clear hW k0 k1 k2 hbw hbw2 hrW hr hsz
  have HC:=Lib.hid hbc
  clear hbc
  go_wp2_with (
    (go_at_call 36
     with_reducible refine(HC.out _).mono ?_
     rintro e w' ⟨rfl,rfl⟩))
  refine gen1 fun WB hbB hkB hsB=>?_
  have j0:Bk WB w.heap.size 45 #[.int .i64 xa,.slice A L.length c,.bool false]:=HW.out.1.below hbB HW.out.1.lt
  have j1:Bk WB (w.heap.size+1) 40 #[.int .i64 0,.int .i64 0,.int .i64 0,.bool false]:=HW.out.2.1.below hbB HW.out.2.1.lt
  have j2:Bk WB (w.heap.size+1+1) 45 #[.int .i64 0,.slice none 0 0,.bool false]:=HW.out.2.2.1.below hbB HW.out.2.2.1.lt
  have jb:Below w.heap.size w WB:=HW.out.2.2.2.1.trans (hbB.mono HW.out.2.2.2.1.size)
  have jr:Rt WB 73 2 (.slice A L.length c) L.length (dcls L):=HW.out.2.2.2.2.2.next hbB
  clear p0 p1 p2 p3 p4 p5 q0 q1 q2 q3 q4 q5 q6 q7 r0 r1 r2 r3 r4 r5
  obtain⟨p0,p1,p2,p3,p4,p5⟩:=j0.three
  obtain⟨q0,q1,q2,q3,q4,q5,q6,q7⟩:=j1.four
  obtain⟨r0,r1,r2,r3,r4,r5⟩:=j2.three
  obtain⟨v0,v1,v2,v3,v4,v5⟩:=hkB.three
  have a7:¬w.heap.size+1=W.heap.size:=by have:=HW.out.2.2.2.2.1;omega
  have a8:¬w.heap.size+1+1=W.heap.size:=by have:=HW.out.2.2.2.2.1;omega
  have a9:¬W.heap.size=w.heap.size+1:=by have:=HW.out.2.2.2.2.1;omega
  have a10:¬W.heap.size=w.heap.size+1+1:=by have:=HW.out.2.2.2.2.1;omega
  have a11:¬W.heap.size=w.heap.size:=by have:=HW.out.2.2.2.2.1;omega
  have a12:¬w.heap.size=W.heap.size:=by have:=HW.out.2.2.2.2.1;omega
  have HB:=Lib.hid (And.intro j0 (And.intro j1 (And.intro j2 (And.intro jb (And.intro hkB jr)))))
  clear j0 j1 j2 jb jr hkB hbB
  go_wp2_with fail
  go_loop [12] (fun s=>∃k:Nat,x≤k∧k≤l.length∧s=.int .i64 (k:Int)∧∀j,x≤j→j<k→(l.getD j 0).toNat≠10) (fun s=>l.length-(intOf s).toNat)
  case atStart=>exact⟨x,Nat.le_refl _,by omega,rfl,fun j h1 h2=>by omega⟩
  case round=>
    obtain⟨k,hxk,hkl,rfl,hno⟩:=hrel
    by_cases hlt:k<l.length
    ·obtain⟨i1,i2⟩:=ba_at l k hlt
     obtain⟨d,hd⟩:∃d,d=l.getD k 0:=⟨_,rfl⟩
     rw[←hd] at i2
     have e1:(k:Int)<(l.length:Int):=by omega
     have e2:(0:Int)≤(k:Int):=by omega
     by_cases hd10:d.toNat=10
     ·have e3:((d.toNat:Int)!=10)=false:=by rw[bne_eq_false_iff_eq];omega
      have e4:((d.toNat:Int)==10)=true:=by rw[beq_iff_eq];omega
      obtain rfl:k=E:=by rw[HE.out];exact(lineN_stop l x k hxk hno hlt (by rw[←hd];exact hd10)).symm
      clear hno hd
      go_wp2_with fail
      go_region
      all_goals (
        obtain⟨m1,m2,mb,mo⟩:=fin_td (.int .i64 3) (.int .i64 (x:Int)) (.int .i64 (k:Int)) (.bool false) (.int .i64 0) (.slice A L.length c) (.bool false) HB.out.2.1 HB.out.2.2.1 (by omega) HB.out.2.2.2.1 (by omega) (by omega) _ rfl
        have mo:=mo (HB.out.2.2.2.2.2) (by decide) (by decide)
        generalize World.setCell _ _ _=W5 at m1 m2 mb mo ⊢
        obtain⟨s0,s1,s2,s3,_⟩:=m1.four
        obtain⟨t0,t1,t2,_⟩:=m2.three
        try go_wp2
        refine bodyPost_ret (v:=.tuple #[tkv ⟨3,x,k,false⟩,lxv (⟨0,L,false⟩:Lx).aw (.slice A L.length c) (⟨0,L,false⟩:Lx).bd]) (by simp[results,Tryz.results30,go_sem,lxv,tkv,s0,s1,s2,s3,t0,t1,t2]) rfl ?_
        exact⟨_,rfl,⟨_,rfl,mo⟩,by first|exact mb|exact below_drewN' mb 1⟩)
     ·have e3:((d.toNat:Int)!=10)=true:=by rw[bne_iff_ne];omega
      have e4:((d.toNat:Int)==10)=false:=by rw[beq_eq_false_iff_ne];omega
      have hno2:∀j,x≤j→j<k+1→(l.getD j 0).toNat≠10:=fun j h1 h2=>by
        by_cases e:j=k
        ·subst e;rw[←hd];exact hd10
        ·exact hno j h1 (by omega)
      have HN:=Lib.hid hno2
      clear hno hno2 hd
      go_wp2_with fail
      exact⟨⟨k+1,by omega,by omega,by go_num,HN.out⟩,by simp[intOf]<;>omega⟩
    ·obtain rfl:k=l.length:=by omega
     obtain rfl:l.length=E:=by rw[HE.out];exact(lineN_end l x (by omega) hno).symm
     clear hno
     go_wp2_with fail
     go_region
     all_goals (
       obtain⟨m1,m2,mb,mo⟩:=fin_td (.int .i64 3) (.int .i64 (x:Int)) (.int .i64 (l.length:Int)) (.bool false) (.int .i64 0) (.slice A L.length c) (.bool false) HB.out.2.1 HB.out.2.2.1 (by omega) HB.out.2.2.2.1 (by omega) (by omega) _ rfl
       have mo:=mo (HB.out.2.2.2.2.2) (by decide) (by decide)
       generalize World.setCell _ _ _=W5 at m1 m2 mb mo ⊢
       obtain⟨s0,s1,s2,s3,_⟩:=m1.four
       obtain⟨t0,t1,t2,_⟩:=m2.three
       try go_wp2
       refine bodyPost_ret (v:=.tuple #[tkv ⟨3,x,l.length,false⟩,lxv (⟨0,L,false⟩:Lx).aw (.slice A L.length c) (⟨0,L,false⟩:Lx).bd]) (by simp[results,Tryz.results30,go_sem,lxv,tkv,s0,s1,s2,s3,t0,t1,t2]) rfl ?_
       exact⟨_,rfl,⟨_,rfl,mo⟩,by first|exact mb|exact below_drewN' mb 1⟩)
set_option maxHeartbeats 4000000 in
theorem rstep_op (l:List UInt8) (x:Nat) (X:Lx) (hl:l.length≤900) (hx:x<l.length) (hbd:X.bd=false) (hnb:blankL l x=x) (h10:(l.getD x 0).toNat≠10) (h35:(l.getD x 0).toNat≠35) (hop:0<(opAt l x).2) (h4:(opAt l x).1≠4∧(opAt l x).1≠5):StepR l x X ⟨4,x,x+(opAt l x).2,false⟩ ⟨0,X.pd,false⟩:=by
  have hbc:∀W,Calls Tryz.prog 36 #[.string ⟨l.toArray⟩,.int .i64 (x:Int)] W fun e w'=>e=.returned (.int .i64 (x:Int))∧W=w':=fun W=>by
    have h:=rblank_m l x W (by omega) (by omega)
    rwa [hnb] at h
  obtain⟨g1,g2⟩:=ba_at l x hx
  obtain⟨cc,hcc⟩:∃cc,cc=l.getD x 0:=⟨_,rfl⟩
  rw[←hcc] at g2 h10 h35
  have u1:(x:Int)<(l.length:Int):=by omega
  have u2:(0:Int)≤(x:Int):=by omega
  have b1:((cc.toNat:Int)==10)=false:=by rw[beq_eq_false_iff_ne];omega
  have b2:((cc.toNat:Int)==35)=false:=by rw[beq_eq_false_iff_ne];omega
  obtain⟨hs1,hs2,hs3⟩:=op_same l x hx
  have hO17:(opAt l x).1≤17:=by rw[←hs1];exact opBest_le _ _
  have hO0:0<(opAt l x).1:=by
    refine Nat.pos_of_ne_zero fun h=>?_
    rw[h] at hs2
    have:(opTx 0).length=0:=rfl
    omega
  have hoc:∀W,Calls Tryz.prog 37 #[.string ⟨l.toArray⟩,.int .i64 (x:Int)] W fun e w'=>e=.returned (.int .i64 (((opAt l x).1:Nat):Int))∧W=w':=fun W=>by
    have h:=opat_r l x W (by omega) (by omega)
    rwa [hs1] at h
  have htc:∀W,Calls Tryz.prog 38 #[.int .i64 (((opAt l x).1:Nat):Int)] W fun e w'=>e=.returned (.string ⟨(opTx (opAt l x).1).toArray⟩)∧W=w':=fun W=>text_r _ hO17 W
  obtain⟨O,hO⟩:∃O,O=(opAt l x).1:=⟨_,rfl⟩
  obtain⟨K,hK⟩:∃K,K=(opAt l x).2:=⟨_,rfl⟩
  obtain⟨S,hS⟩:∃S,S=opTx O:=⟨_,rfl⟩
  rw[←hO] at hoc htc hs2 hO17 hO0 h4
  rw[←hS] at htc hs2
  rw[←hK] at hs2 hop ⊢
  have hSK:S.length=K:=hs2
  have hKl:K≤3:=by rw[←hSK,hS];exact opTx_len _
  clear hs1 hs3 hO hK hS hcc hnb hs2
  intro A c w hr hn2
  unfold lxv
  obtain⟨xa,L,xb⟩:=X
  obtain rfl:xb=false:=hbd
  have hr:Rt w 73 2 (.slice A L.length c) L.length (dcls L):=hr
  have hn2:L.length≤10000:=hn2
  go_enter Tryz.func30,Tryz.ntmps30
  go_wp2_with fail
  obtain⟨W,hW⟩:∃W,W=(((w.alloc (.cells #[.int .i64 xa,.slice A L.length c,.bool false] 45)).alloc (.cells #[.int .i64 0,.int .i64 0,.int .i64 0,.bool false] 40)).alloc (.cells #[.int .i64 0,.slice none 0 0,.bool false] 45)):=⟨_,rfl⟩
  have k0:Bk W w.heap.size 45 #[.int .i64 xa,.slice A L.length c,.bool false]:=by rw[hW];exact((Bk.new w _ _).alloc _).alloc _
  have k1:Bk W (w.heap.size+1) 40 #[.int .i64 0,.int .i64 0,.int .i64 0,.bool false]:=by rw[hW];exact(bk_second w _ _ _ _).alloc _
  have k2:Bk W (w.heap.size+1+1) 45 #[.int .i64 0,.slice none 0 0,.bool false]:=by rw[hW];simpa using Bk.new ((w.alloc _).alloc _) 45 _
  have hbw:Below w.heap.size w W:=by rw[hW];exact(((Below.refl _ w).alloc (Nat.le_refl _) _).alloc (by simp) _).alloc (by simp<;>omega) _
  have hbw2:Below w.heap.size w W:=hbw
  have hsz:W.heap.size=w.heap.size+3:=by rw[hW];simp
  have hrW:Rt W 73 2 (.slice A L.length c) L.length (dcls L):=hr.next hbw
  rw[←hW]
  obtain⟨p0,p1,p2,p3,p4,p5⟩:=k0.three
  obtain⟨q0,q1,q2,q3,q4,q5,q6,q7⟩:=k1.four
  obtain⟨r0,r1,r2,r3,r4,r5⟩:=k2.three
  have HW:=Lib.hid (And.intro k0 (And.intro k1 (And.intro k2 (And.intro hbw (And.intro hsz hrW)))))
  have a1:¬w.heap.size=w.heap.size+1:=by omega
  have a2:¬w.heap.size=w.heap.size+1+1:=by omega
  have a3:¬w.heap.size+1=w.heap.size+1+1:=by omega
  have a4:¬w.heap.size+1+1=w.heap.size+1:=by omega
  have a5:¬w.heap.size+1=w.heap.size:=by omega
  have a6:¬w.heap.size+1+1=w.heap.size:=by omega
  clear hW k0 k1 k2 hbw hbw2 hrW hr hsz
  have HC:=Lib.hid hbc
  have HO:=Lib.hid hoc
  have HT:=Lib.hid htc
  clear hbc hoc htc
  have hS3:S.length≤3:=by omega
  have hwr:IntKind.i64.wrap ((x:Int)+(S.length:Int))=(x:Int)+(S.length:Int):=IntWalk.i64_in _ (by omega)
  have HSK:=Lib.hid hSK
  clear hSK
  have d0:decide ((0:Int)<(O:Int))=true:=decide_eq_true (by omega)
  have d00:decide (0<O)=true:=decide_eq_true hO0
  have e4:((O:Int)==4)=false:=by rw[beq_eq_false_iff_ne];omega
  have e5:((O:Int)==5)=false:=by rw[beq_eq_false_iff_ne];omega
  go_upto_region 17 with (
    (go_at_call 36
     with_reducible refine(HC.out _).mono ?_
     rintro e w' ⟨rfl,rfl⟩))
  refine gen1 fun WB hbB hkB hsB=>?_
  have j0:Bk WB w.heap.size 45 #[.int .i64 xa,.slice A L.length c,.bool false]:=HW.out.1.below hbB HW.out.1.lt
  have j1:Bk WB (w.heap.size+1) 40 #[.int .i64 0,.int .i64 0,.int .i64 0,.bool false]:=HW.out.2.1.below hbB HW.out.2.1.lt
  have j2:Bk WB (w.heap.size+1+1) 45 #[.int .i64 0,.slice none 0 0,.bool false]:=HW.out.2.2.1.below hbB HW.out.2.2.1.lt
  have jb:Below w.heap.size w WB:=HW.out.2.2.2.1.trans (hbB.mono HW.out.2.2.2.1.size)
  have jr:Rt WB 73 2 (.slice A L.length c) L.length (dcls L):=HW.out.2.2.2.2.2.next hbB
  clear p0 p1 p2 p3 p4 p5 q0 q1 q2 q3 q4 q5 q6 q7 r0 r1 r2 r3 r4 r5
  obtain⟨p0,p1,p2,p3,p4,p5⟩:=j0.three
  obtain⟨q0,q1,q2,q3,q4,q5,q6,q7⟩:=j1.four
  obtain⟨r0,r1,r2,r3,r4,r5⟩:=j2.three
  obtain⟨v0,v1,v2,v3,v4,v5⟩:=hkB.three
  have a7:¬w.heap.size+1=W.heap.size:=by have:=HW.out.2.2.2.2.1;omega
  have a8:¬w.heap.size+1+1=W.heap.size:=by have:=HW.out.2.2.2.2.1;omega
  have a9:¬W.heap.size=w.heap.size+1:=by have:=HW.out.2.2.2.2.1;omega
  have a10:¬W.heap.size=w.heap.size+1+1:=by have:=HW.out.2.2.2.2.1;omega
  have a11:¬W.heap.size=w.heap.size:=by have:=HW.out.2.2.2.2.1;omega
  have a12:¬w.heap.size=W.heap.size:=by have:=HW.out.2.2.2.2.1;omega
  have HB:=Lib.hid (And.intro j0 (And.intro j1 (And.intro j2 (And.intro jb (And.intro hkB jr)))))
  clear j0 j1 j2 jb jr hkB hbB
  go_wp2_with (
    (go_at_call 37
     with_reducible refine(HO.out _).mono ?_
     rintro e w' ⟨rfl,rfl⟩))
  go_region_held3 (fun w'=>w'.cell? ⟨W.heap.size,0,none⟩=some (.int .i64 0)∧w'.cell? ⟨W.heap.size,1,none⟩=some (.slice A L.length c)∧w'.cell? ⟨W.heap.size,2,none⟩=some (.bool false))
    (first
      | with_reducible exact⟨v0,v1,v2⟩
      | go_keep)
    ((go_at_call 38
      with_reducible refine(HT.out _).mono ?_
      rintro e w' ⟨rfl,rfl⟩))
  all_goals (
    obtain⟨m1,m2,mb,mo⟩:=fin_td (.int .i64 4) (.int .i64 (x:Int)) (.int .i64 ((x:Int)+(S.length:Int))) (.bool false) (.int .i64 0) (.slice A L.length c) (.bool false) HB.out.2.1 HB.out.2.2.1 (by omega) HB.out.2.2.2.1 (by omega) (by omega) _ rfl
    have mo:=mo (HB.out.2.2.2.2.2) (by decide) (by decide)
    generalize World.setCell _ _ _=W5 at m1 m2 mb mo ⊢
    obtain⟨s0,s1,s2,s3,_⟩:=m1.four
    obtain⟨t0,t1,t2,_⟩:=m2.three
    try go_wp2
    refine bodyPost_ret (v:=.tuple #[tkv ⟨4,x,x+K,false⟩,lxv (⟨0,L,false⟩:Lx).aw (.slice A L.length c) (⟨0,L,false⟩:Lx).bd]) (by simp[results,Tryz.results30,go_sem,lxv,tkv,s0,s1,s2,s3,t0,t1,t2,HSK.out]) rfl ?_
    exact⟨_,rfl,⟨_,rfl,mo⟩,by first|exact mb|exact below_drewN' mb 1⟩)
set_option maxHeartbeats 4000000 in
theorem rstep_op45 (l:List UInt8) (x:Nat) (X:Lx) (hl:l.length≤900) (hx:x<l.length) (hbd:X.bd=false) (hnb:blankL l x=x) (h10:(l.getD x 0).toNat≠10) (h35:(l.getD x 0).toNat≠35) (hop:0<(opAt l x).2) (h4:(opAt l x).1=4∨(opAt l x).1=5):StepR l x X ⟨4,x,x+(opAt l x).2,false⟩ ⟨((opAt l x).1:Int),X.pd,false⟩:=by
  have hbc:∀W,Calls Tryz.prog 36 #[.string ⟨l.toArray⟩,.int .i64 (x:Int)] W fun e w'=>e=.returned (.int .i64 (x:Int))∧W=w':=fun W=>by
    have h:=rblank_m l x W (by omega) (by omega)
    rwa [hnb] at h
  obtain⟨g1,g2⟩:=ba_at l x hx
  obtain⟨cc,hcc⟩:∃cc,cc=l.getD x 0:=⟨_,rfl⟩
  rw[←hcc] at g2 h10 h35
  have u1:(x:Int)<(l.length:Int):=by omega
  have u2:(0:Int)≤(x:Int):=by omega
  have b1:((cc.toNat:Int)==10)=false:=by rw[beq_eq_false_iff_ne];omega
  have b2:((cc.toNat:Int)==35)=false:=by rw[beq_eq_false_iff_ne];omega
  obtain⟨hs1,hs2,hs3⟩:=op_same l x hx
  have hO17:(opAt l x).1≤17:=by rw[←hs1];exact opBest_le _ _
  have hO0:0<(opAt l x).1:=by
    refine Nat.pos_of_ne_zero fun h=>?_
    rw[h] at hs2
    have:(opTx 0).length=0:=rfl
    omega
  have hoc:∀W,Calls Tryz.prog 37 #[.string ⟨l.toArray⟩,.int .i64 (x:Int)] W fun e w'=>e=.returned (.int .i64 (((opAt l x).1:Nat):Int))∧W=w':=fun W=>by
    have h:=opat_r l x W (by omega) (by omega)
    rwa [hs1] at h
  have htc:∀W,Calls Tryz.prog 38 #[.int .i64 (((opAt l x).1:Nat):Int)] W fun e w'=>e=.returned (.string ⟨(opTx (opAt l x).1).toArray⟩)∧W=w':=fun W=>text_r _ hO17 W
  obtain⟨O,hO⟩:∃O,O=(opAt l x).1:=⟨_,rfl⟩
  obtain⟨K,hK⟩:∃K,K=(opAt l x).2:=⟨_,rfl⟩
  obtain⟨S,hS⟩:∃S,S=opTx O:=⟨_,rfl⟩
  rw[←hO] at hoc htc hs2 hO17 hO0 h4 ⊢
  rw[←hS] at htc hs2
  rw[←hK] at hs2 hop ⊢
  have hSK:S.length=K:=hs2
  have hKl:K≤3:=by rw[←hSK,hS];exact opTx_len _
  clear hs1 hs3 hO hK hS hcc hnb hs2
  intro A c w hr hn2
  unfold lxv
  obtain⟨xa,L,xb⟩:=X
  obtain rfl:xb=false:=hbd
  have hr:Rt w 73 2 (.slice A L.length c) L.length (dcls L):=hr
  have hn2:L.length≤10000:=hn2
  go_enter Tryz.func30,Tryz.ntmps30
  go_wp2_with fail
  obtain⟨W,hW⟩:∃W,W=(((w.alloc (.cells #[.int .i64 xa,.slice A L.length c,.bool false] 45)).alloc (.cells #[.int .i64 0,.int .i64 0,.int .i64 0,.bool false] 40)).alloc (.cells #[.int .i64 0,.slice none 0 0,.bool false] 45)):=⟨_,rfl⟩
  have k0:Bk W w.heap.size 45 #[.int .i64 xa,.slice A L.length c,.bool false]:=by rw[hW];exact((Bk.new w _ _).alloc _).alloc _
  have k1:Bk W (w.heap.size+1) 40 #[.int .i64 0,.int .i64 0,.int .i64 0,.bool false]:=by rw[hW];exact(bk_second w _ _ _ _).alloc _
  have k2:Bk W (w.heap.size+1+1) 45 #[.int .i64 0,.slice none 0 0,.bool false]:=by rw[hW];simpa using Bk.new ((w.alloc _).alloc _) 45 _
  have hbw:Below w.heap.size w W:=by rw[hW];exact(((Below.refl _ w).alloc (Nat.le_refl _) _).alloc (by simp) _).alloc (by simp<;>omega) _
  have hbw2:Below w.heap.size w W:=hbw
  have hsz:W.heap.size=w.heap.size+3:=by rw[hW];simp
  have hrW:Rt W 73 2 (.slice A L.length c) L.length (dcls L):=hr.next hbw
  rw[←hW]
  obtain⟨p0,p1,p2,p3,p4,p5⟩:=k0.three
  obtain⟨q0,q1,q2,q3,q4,q5,q6,q7⟩:=k1.four
  obtain⟨r0,r1,r2,r3,r4,r5⟩:=k2.three
  have HW:=Lib.hid (And.intro k0 (And.intro k1 (And.intro k2 (And.intro hbw (And.intro hsz hrW)))))
  have a1:¬w.heap.size=w.heap.size+1:=by omega
  have a2:¬w.heap.size=w.heap.size+1+1:=by omega
  have a3:¬w.heap.size+1=w.heap.size+1+1:=by omega
  have a4:¬w.heap.size+1+1=w.heap.size+1:=by omega
  have a5:¬w.heap.size+1=w.heap.size:=by omega
  have a6:¬w.heap.size+1+1=w.heap.size:=by omega
  clear hW k0 k1 k2 hbw hbw2 hrW hr hsz
  have HC:=Lib.hid hbc
  have HO:=Lib.hid hoc
  have HT:=Lib.hid htc
  clear hbc hoc htc
  have hS3:S.length≤3:=by omega
  have hwr:IntKind.i64.wrap ((x:Int)+(S.length:Int))=(x:Int)+(S.length:Int):=IntWalk.i64_in _ (by omega)
  have HSK:=Lib.hid hSK
  clear hSK
  have d0:decide ((0:Int)<(O:Int))=true:=decide_eq_true (by omega)
  have d00:decide (0<O)=true:=decide_eq_true hO0
  have e45:((O:Int)==4)=true∨(((O:Int)==4)=false∧((O:Int)==5)=true):=by
    rcases h4 with h|h
    ·exact .inl (by rw[beq_iff_eq];omega)
    ·exact .inr ⟨by rw[beq_eq_false_iff_ne];omega,by rw[beq_iff_eq];omega⟩
  clear h4
  go_upto_region 17 with (
    (go_at_call 36
     with_reducible refine(HC.out _).mono ?_
     rintro e w' ⟨rfl,rfl⟩))
  refine gen1 fun WB hbB hkB hsB=>?_
  have j0:Bk WB w.heap.size 45 #[.int .i64 xa,.slice A L.length c,.bool false]:=HW.out.1.below hbB HW.out.1.lt
  have j1:Bk WB (w.heap.size+1) 40 #[.int .i64 0,.int .i64 0,.int .i64 0,.bool false]:=HW.out.2.1.below hbB HW.out.2.1.lt
  have j2:Bk WB (w.heap.size+1+1) 45 #[.int .i64 0,.slice none 0 0,.bool false]:=HW.out.2.2.1.below hbB HW.out.2.2.1.lt
  have jb:Below w.heap.size w WB:=HW.out.2.2.2.1.trans (hbB.mono HW.out.2.2.2.1.size)
  have jr:Rt WB 73 2 (.slice A L.length c) L.length (dcls L):=HW.out.2.2.2.2.2.next hbB
  clear p0 p1 p2 p3 p4 p5 q0 q1 q2 q3 q4 q5 q6 q7 r0 r1 r2 r3 r4 r5
  obtain⟨p0,p1,p2,p3,p4,p5⟩:=j0.three
  obtain⟨q0,q1,q2,q3,q4,q5,q6,q7⟩:=j1.four
  obtain⟨r0,r1,r2,r3,r4,r5⟩:=j2.three
  obtain⟨v0,v1,v2,v3,v4,v5⟩:=hkB.three
  have a7:¬w.heap.size+1=W.heap.size:=by have:=HW.out.2.2.2.2.1;omega
  have a8:¬w.heap.size+1+1=W.heap.size:=by have:=HW.out.2.2.2.2.1;omega
  have a9:¬W.heap.size=w.heap.size+1:=by have:=HW.out.2.2.2.2.1;omega
  have a10:¬W.heap.size=w.heap.size+1+1:=by have:=HW.out.2.2.2.2.1;omega
  have a11:¬W.heap.size=w.heap.size:=by have:=HW.out.2.2.2.2.1;omega
  have a12:¬w.heap.size=W.heap.size:=by have:=HW.out.2.2.2.2.1;omega
  have HB:=Lib.hid (And.intro j0 (And.intro j1 (And.intro j2 (And.intro jb (And.intro hkB jr)))))
  clear j0 j1 j2 jb jr hkB hbB
  rcases e45 with e4|⟨e4,e5⟩
  all_goals (
    go_upto_region 21 with (
      (go_at_call 37
       with_reducible refine(HO.out _).mono ?_
       rintro e w' ⟨rfl,rfl⟩))
    have y1:=HB.out.2.1.far (p:=⟨W.heap.size,0,none⟩) (by have:=HW.out.2.2.2.2.1;show w.heap.size+1≠W.heap.size;omega) (.int .i64 (O:Int))
    have y2:=HB.out.2.2.1.far (p:=⟨W.heap.size,0,none⟩) (by have:=HW.out.2.2.2.2.1;show w.heap.size+1+1≠W.heap.size;omega) (.int .i64 (O:Int))
    have yb:=HB.out.2.2.2.1.setCell (p:=⟨W.heap.size,0,none⟩) (by have:=HW.out.2.2.2.2.1;show w.heap.size≤W.heap.size;omega) (.int .i64 (O:Int))
    have yk:=HB.out.2.2.2.2.1.set 0 (.int .i64 (O:Int))
    have yr:=HB.out.2.2.2.2.2.keep (grown_set (grown_refl WB (some W.heap.size)) 0 (.int .i64 (O:Int))) (HB.out.2.2.2.2.1.row (by decide))
    have y0:=HB.out.1.far (p:=⟨W.heap.size,0,none⟩) (by have:=HW.out.2.2.2.2.1;show w.heap.size≠W.heap.size;omega) (.int .i64 (O:Int))
    generalize WB.setCell _ _=WC at y0 y1 y2 yb yk yr ⊢
    have yk:Bk WC W.heap.size 45 #[.int .i64 (O:Int),.slice A L.length c,.bool false]:=yk
    clear p0 p1 p2 p3 p4 p5 q0 q1 q2 q3 q4 q5 q6 q7 r0 r1 r2 r3 r4 r5 v0 v1 v2 v3 v4 v5
    obtain⟨q0,q1,q2,q3,q4,q5,q6,q7⟩:=y1.four
    obtain⟨r0,r1,r2,r3,r4,r5⟩:=y2.three
    obtain⟨v0,v1,v2,v3,v4,v5⟩:=yk.three
    have HD:=Lib.hid (And.intro y0 (And.intro y1 (And.intro y2 (And.intro yb (And.intro yk yr)))))
    clear y0 y1 y2 yb yk yr
    go_region_held3 (fun w'=>w'.cell? ⟨W.heap.size,0,none⟩=some (.int .i64 (O:Int))∧w'.cell? ⟨W.heap.size,1,none⟩=some (.slice A L.length c)∧w'.cell? ⟨W.heap.size,2,none⟩=some (.bool false))
      (first
        | with_reducible exact⟨v0,v1,v2⟩
        | go_keep)
      ((go_at_call 38
        with_reducible refine(HT.out _).mono ?_
        rintro e w' ⟨rfl,rfl⟩)))
  all_goals (
    obtain⟨m1,m2,mb,mo⟩:=fin_td (.int .i64 4) (.int .i64 (x:Int)) (.int .i64 ((x:Int)+(S.length:Int))) (.bool false) (.int .i64 (O:Int)) (.slice A L.length c) (.bool false) HD.out.2.1 HD.out.2.2.1 (by omega) HD.out.2.2.2.1 (by omega) (by omega) _ rfl
    have mo:=mo (HD.out.2.2.2.2.2) (by decide) (by decide)
    generalize World.setCell _ _ _=W5 at m1 m2 mb mo ⊢
    obtain⟨s0,s1,s2,s3,_⟩:=m1.four
    obtain⟨t0,t1,t2,_⟩:=m2.three
    try go_wp2
    refine bodyPost_ret (v:=.tuple #[tkv ⟨4,x,x+K,false⟩,lxv (⟨(O:Int),L,false⟩:Lx).aw (.slice A L.length c) (⟨(O:Int),L,false⟩:Lx).bd]) (by simp[results,Tryz.results30,go_sem,lxv,tkv,s0,s1,s2,s3,t0,t1,t2,HSK.out]) rfl ?_
    exact⟨_,rfl,⟨_,rfl,mo⟩,by first|exact mb|exact below_drewN' mb 1⟩)
set_option maxHeartbeats 4000000 in
theorem rstep_num (l:List UInt8) (x:Nat) (X:Lx) (hl:l.length≤900) (hx:x<l.length) (hbd:X.bd=false) (hnb:blankL l x=x) (h10:(l.getD x 0).toNat≠10) (h35:(l.getD x 0).toNat≠35) (hop:(opAt l x).2=0) (hnum:numB l x=true):StepR l x X ⟨5,x,x+digN l x,false⟩ ⟨0,X.pd,false⟩:=by
  have hbc:∀W,Calls Tryz.prog 36 #[.string ⟨l.toArray⟩,.int .i64 (x:Int)] W fun e w'=>e=.returned (.int .i64 (x:Int))∧W=w':=fun W=>by
    have h:=rblank_m l x W (by omega) (by omega)
    rwa [hnb] at h
  obtain⟨g1,g2⟩:=ba_at l x hx
  obtain⟨cc,hcc⟩:∃cc,cc=l.getD x 0:=⟨_,rfl⟩
  rw[←hcc] at g2 h10 h35
  have u1:(x:Int)<(l.length:Int):=by omega
  have u2:(0:Int)≤(x:Int):=by omega
  have b1:((cc.toNat:Int)==10)=false:=by rw[beq_eq_false_iff_ne];omega
  have b2:((cc.toNat:Int)==35)=false:=by rw[beq_eq_false_iff_ne];omega
  have hoc:∀W,Calls Tryz.prog 37 #[.string ⟨l.toArray⟩,.int .i64 (x:Int)] W fun e w'=>e=.returned (.int .i64 0)∧W=w':=fun W=>by
    obtain⟨hs1,hs2,hs3⟩:=op_same l x hx
    have h17:(opAt l x).1≤17:=by rw[←hs1];exact opBest_le _ _
    have h0:(opAt l x).1=0:=by
      rw[hop] at hs2
      by_cases h:(opAt l x).1=0
      ·exact h
      ·exfalso
       have:((List.range 17).all fun k=>decide (0<(opTx (k+1)).length))=true:=by decide
       have h1:=List.all_eq_true.1 this ((opAt l x).1-1) (List.mem_range.2 (by omega))
       rw[show (opAt l x).1-1+1=(opAt l x).1 by omega,hs2] at h1
       simp at h1
    have h:=opat_r l x W (by omega) (by omega)
    rwa [hs1,h0] at h
  obtain⟨D,hD⟩:∃D,D=digN l x:=⟨_,rfl⟩
  have hDl:D≤l.length-x:=by rw[hD];exact spanL_le digB l x
  rw[←hD]
  have hn3:0<D∧x+D<l.length∧((l.getD (x+D) 0).toNat=60∨(l.getD (x+D) 0).toNat=62):=by
    unfold numB at hnum
    rw[←hD] at hnum
    simp only[Bool.and_eq_true,Bool.or_eq_true,decide_eq_true_eq,beq_iff_eq] at hnum
    exact⟨hnum.1.1,hnum.1.2,hnum.2⟩
  have HN3:=Lib.hid hn3
  have HD0:=Lib.hid hD
  clear hD hnum hn3 hcc hnb hop
  intro A c w hr hn2
  unfold lxv
  obtain⟨xa,L,xb⟩:=X
  obtain rfl:xb=false:=hbd
  have hr:Rt w 73 2 (.slice A L.length c) L.length (dcls L):=hr
  have hn2:L.length≤10000:=hn2
  go_enter Tryz.func30,Tryz.ntmps30
  go_wp2_with fail
  obtain⟨W,hW⟩:∃W,W=(((w.alloc (.cells #[.int .i64 xa,.slice A L.length c,.bool false] 45)).alloc (.cells #[.int .i64 0,.int .i64 0,.int .i64 0,.bool false] 40)).alloc (.cells #[.int .i64 0,.slice none 0 0,.bool false] 45)):=⟨_,rfl⟩
  have k0:Bk W w.heap.size 45 #[.int .i64 xa,.slice A L.length c,.bool false]:=by rw[hW];exact((Bk.new w _ _).alloc _).alloc _
  have k1:Bk W (w.heap.size+1) 40 #[.int .i64 0,.int .i64 0,.int .i64 0,.bool false]:=by rw[hW];exact(bk_second w _ _ _ _).alloc _
  have k2:Bk W (w.heap.size+1+1) 45 #[.int .i64 0,.slice none 0 0,.bool false]:=by rw[hW];simpa using Bk.new ((w.alloc _).alloc _) 45 _
  have hbw:Below w.heap.size w W:=by rw[hW];exact(((Below.refl _ w).alloc (Nat.le_refl _) _).alloc (by simp) _).alloc (by simp<;>omega) _
  have hbw2:Below w.heap.size w W:=hbw
  have hsz:W.heap.size=w.heap.size+3:=by rw[hW];simp
  have hrW:Rt W 73 2 (.slice A L.length c) L.length (dcls L):=hr.next hbw
  rw[←hW]
  obtain⟨p0,p1,p2,p3,p4,p5⟩:=k0.three
  obtain⟨q0,q1,q2,q3,q4,q5,q6,q7⟩:=k1.four
  obtain⟨r0,r1,r2,r3,r4,r5⟩:=k2.three
  have HW:=Lib.hid (And.intro k0 (And.intro k1 (And.intro k2 (And.intro hbw (And.intro hsz hrW)))))
  have a1:¬w.heap.size=w.heap.size+1:=by omega
  have a2:¬w.heap.size=w.heap.size+1+1:=by omega
  have a3:¬w.heap.size+1=w.heap.size+1+1:=by omega
  have a4:¬w.heap.size+1+1=w.heap.size+1:=by omega
  have a5:¬w.heap.size+1=w.heap.size:=by omega
  have a6:¬w.heap.size+1+1=w.heap.size:=by omega
  clear hW k0 k1 k2 hbw hbw2 hrW hr hsz
  have HC:=Lib.hid hbc
  have HO:=Lib.hid hoc
  clear hbc hoc
  go_upto_region 17 with (
    (go_at_call 36
     with_reducible refine(HC.out _).mono ?_
     rintro e w' ⟨rfl,rfl⟩))
  refine gen1 fun WB hbB hkB hsB=>?_
  have j0:Bk WB w.heap.size 45 #[.int .i64 xa,.slice A L.length c,.bool false]:=HW.out.1.below hbB HW.out.1.lt
  have j1:Bk WB (w.heap.size+1) 40 #[.int .i64 0,.int .i64 0,.int .i64 0,.bool false]:=HW.out.2.1.below hbB HW.out.2.1.lt
  have j2:Bk WB (w.heap.size+1+1) 45 #[.int .i64 0,.slice none 0 0,.bool false]:=HW.out.2.2.1.below hbB HW.out.2.2.1.lt
  have jb:Below w.heap.size w WB:=HW.out.2.2.2.1.trans (hbB.mono HW.out.2.2.2.1.size)
  have jr:Rt WB 73 2 (.slice A L.length c) L.length (dcls L):=HW.out.2.2.2.2.2.next hbB
  clear p0 p1 p2 p3 p4 p5 q0 q1 q2 q3 q4 q5 q6 q7 r0 r1 r2 r3 r4 r5
  obtain⟨p0,p1,p2,p3,p4,p5⟩:=j0.three
  obtain⟨q0,q1,q2,q3,q4,q5,q6,q7⟩:=j1.four
  obtain⟨r0,r1,r2,r3,r4,r5⟩:=j2.three
  obtain⟨v0,v1,v2,v3,v4,v5⟩:=hkB.three
  have a7:¬w.heap.size+1=W.heap.size:=by have:=HW.out.2.2.2.2.1;omega
  have a8:¬w.heap.size+1+1=W.heap.size:=by have:=HW.out.2.2.2.2.1;omega
  have a9:¬W.heap.size=w.heap.size+1:=by have:=HW.out.2.2.2.2.1;omega
  have a10:¬W.heap.size=w.heap.size+1+1:=by have:=HW.out.2.2.2.2.1;omega
  have a11:¬W.heap.size=w.heap.size:=by have:=HW.out.2.2.2.2.1;omega
  have a12:¬w.heap.size=W.heap.size:=by have:=HW.out.2.2.2.2.1;omega
  have HB:=Lib.hid (And.intro j0 (And.intro j1 (And.intro j2 (And.intro jb (And.intro hkB jr)))))
  clear j0 j1 j2 jb jr hkB hbB
  go_wp2_with (
    (go_at_call 37
     with_reducible refine(HO.out _).mono ?_
     rintro e w' ⟨rfl,rfl⟩))
  go_loop [14] (fun s=>∃k:Nat,x≤k∧k≤l.length∧s=.int .i64 (k:Int)∧∀j,x≤j→j<k→digB (l.getD j 0)=true) (fun s=>l.length-(intOf s).toNat)
  case atStart=>exact⟨x,Nat.le_refl _,by omega,rfl,fun j h1 h2=>by omega⟩
  case round=>
    obtain⟨k,hxk,hkl,rfl,hno⟩:=hrel
    by_cases hlt:k<l.length
    ·obtain⟨i1,i2⟩:=ba_at l k hlt
     obtain⟨d,hd⟩:∃d,d=l.getD k 0:=⟨_,rfl⟩
     rw[←hd] at i2
     have e1:(k:Int)<(l.length:Int):=by omega
     have e2:(0:Int)≤(k:Int):=by omega
     cases hdig:digB d
     ·have e3:(clsOf d==6)=false:=hdig
      have hkD:k=x+D:=by
        have:digN l x=k-x:=span_uniq digB l x (k-x) (fun j hj=>hno _ (by omega) (by omega)) (by omega) (by rw[show x+(k-x)=k by omega,←hd];exact hdig)
        rw[HD0.out,this];omega
      clear hno hdig
      have f1:decide ((x:Int)<(k:Int))=true:=decide_eq_true (by have:=HN3.out.1;omega)
      have f2:decide (x<k)=true:=decide_eq_true (by have:=HN3.out.1;omega)
      have f3:((d.toNat:Int)==60)=true∨(((d.toNat:Int)==60)=false∧((d.toNat:Int)==62)=true):=by
        have h:=HN3.out.2.2
        rw[←hkD,←hd] at h
        by_cases h60:d.toNat=60
        ·exact .inl (by rw[beq_iff_eq];omega)
        ·exact .inr ⟨by rw[beq_eq_false_iff_ne];omega,by rw[beq_iff_eq];omega⟩
      have HK:=Lib.hid hkD
      clear hkD hd
      rcases f3 with f3|⟨f3,f4⟩
      all_goals (
        go_wp2_with (
          (go_at_call 39
           refine(class_c d _).mono ?_
           rintro e w' ⟨rfl,rfl⟩))
        go_region
        all_goals (
          obtain⟨m1,m2,mb,mo⟩:=fin_td (.int .i64 5) (.int .i64 (x:Int)) (.int .i64 (k:Int)) (.bool false) (.int .i64 0) (.slice A L.length c) (.bool false) HB.out.2.1 HB.out.2.2.1 (by omega) HB.out.2.2.2.1 (by omega) (by omega) _ rfl
          have mo:=mo (HB.out.2.2.2.2.2) (by decide) (by decide)
          generalize World.setCell _ _ _=W5 at m1 m2 mb mo ⊢
          obtain⟨s0,s1,s2,s3,_⟩:=m1.four
          obtain⟨t0,t1,t2,_⟩:=m2.three
          try go_wp2
          refine bodyPost_ret (v:=.tuple #[tkv ⟨5,x,x+D,false⟩,lxv (⟨0,L,false⟩:Lx).aw (.slice A L.length c) (⟨0,L,false⟩:Lx).bd]) (by simp[results,Tryz.results30,go_sem,lxv,tkv,s0,s1,s2,s3,t0,t1,t2,←HK.out]) rfl ?_
          exact⟨_,rfl,⟨_,rfl,mo⟩,by first|exact mb|exact below_drewN' mb 1⟩))
     ·have e3:(clsOf d==6)=true:=hdig
      have hno2:∀j,x≤j→j<k+1→digB (l.getD j 0)=true:=fun j h1 h2=>by
        by_cases e:j=k
        ·subst e;rw[←hd];exact hdig
        ·exact hno j h1 (by omega)
      have HN:=Lib.hid hno2
      clear hno hno2 hd hdig
      go_wp2_with (
        (go_at_call 39
         refine(class_c d _).mono ?_
         rintro e w' ⟨rfl,rfl⟩))
      exact⟨⟨k+1,by omega,by omega,by go_num,HN.out⟩,by simp[intOf]<;>omega⟩
    ·obtain rfl:k=l.length:=by omega
     have hkD:l.length=x+D:=by
       rcases Nat.lt_or_ge (x+D) l.length with h|h
       ·have h2:=span_stop digB l x (by have:=HD0.out;show x+digN l x<_;omega)
        rw[show spanL digB l x=D from HD0.out.symm,hno _ (by omega) h] at h2
        cases h2
       ·omega
     clear hno
     exact absurd HN3.out.2.1 (by omega)
set_option maxHeartbeats 8000000 in
theorem rstep_word0 (l:List UInt8) (x:Nat) (X:Lx) (hl:l.length≤900) (hx:x<l.length) (hbd:X.bd=false) (hnb:blankL l x=x) (h10:(l.getD x 0).toNat≠10) (h35:(l.getD x 0).toNat≠35) (hop:(opAt l x).2=0) (hnum:numB l x=false) (haw:X.aw=0):StepR l x X ⟨6,x,x+endL l x,!shutB (sub l x (x+endL l x))⟩ ⟨0,X.pd,false⟩:=by
  have hbc:∀W,Calls Tryz.prog 36 #[.string ⟨l.toArray⟩,.int .i64 (x:Int)] W fun e w'=>e=.returned (.int .i64 (x:Int))∧W=w':=fun W=>by
    have h:=rblank_m l x W (by omega) (by omega)
    rwa [hnb] at h
  obtain⟨g1,g2⟩:=ba_at l x hx
  obtain⟨cc,hcc⟩:∃cc,cc=l.getD x 0:=⟨_,rfl⟩
  rw[←hcc] at g2 h10 h35
  have u1:(x:Int)<(l.length:Int):=by omega
  have u2:(0:Int)≤(x:Int):=by omega
  have b1:((cc.toNat:Int)==10)=false:=by rw[beq_eq_false_iff_ne];omega
  have b2:((cc.toNat:Int)==35)=false:=by rw[beq_eq_false_iff_ne];omega
  have hoc:∀W,Calls Tryz.prog 37 #[.string ⟨l.toArray⟩,.int .i64 (x:Int)] W fun e w'=>e=.returned (.int .i64 0)∧W=w':=fun W=>by
    obtain⟨hs1,hs2,hs3⟩:=op_same l x hx
    have h17:(opAt l x).1≤17:=by rw[←hs1];exact opBest_le _ _
    have h0:(opAt l x).1=0:=by
      rw[hop] at hs2
      by_cases h:(opAt l x).1=0
      ·exact h
      ·exfalso
       have:((List.range 17).all fun k=>decide (0<(opTx (k+1)).length))=true:=by decide
       have h1:=List.all_eq_true.1 this ((opAt l x).1-1) (List.mem_range.2 (by omega))
       rw[show (opAt l x).1-1+1=(opAt l x).1 by omega,hs2] at h1
       simp at h1
    have h:=opat_r l x W (by omega) (by omega)
    rwa [hs1,h0] at h
  obtain⟨D,hD⟩:∃D,D=digN l x:=⟨_,rfl⟩
  have hDl:D≤l.length-x:=by rw[hD];exact spanL_le digB l x
  have hn3:D=0∨x+D=l.length∨(x+D<l.length∧(l.getD (x+D) 0).toNat≠60∧(l.getD (x+D) 0).toNat≠62):=by
    unfold numB at hnum
    rw[←hD] at hnum
    by_cases h1:D=0
    ·exact .inl h1
    ·by_cases h2:x+D<l.length
     ·refine .inr (.inr ⟨h2,fun h=>?_,fun h=>?_⟩)
      ·rw[decide_eq_true (by omega:0<D),decide_eq_true h2,h] at hnum;cases hnum
      ·rw[decide_eq_true (by omega:0<D),decide_eq_true h2,h] at hnum;cases hnum
     ·exact .inr (.inl (by omega))
  have hel:=endL_le l x
  have hen:∀W,Calls Tryz.prog 40 #[.string ⟨l.toArray⟩,.int .i64 (x:Int)] W fun e w'=>e=.returned (.int .i64 ((x+endL l x:Nat):Int))∧Below W.heap.size W w':=fun W=>rend_c l x W hl (by omega)
  obtain⟨E,hE⟩:∃E,E=x+endL l x:=⟨_,rfl⟩
  rw[←hE] at hen ⊢
  have hxE:x≤E:=by omega
  have hEl:E≤l.length:=by omega
  have hsh:∀W,Calls Tryz.prog 42 #[.string ((ByteArray.mk l.toArray).extract x E)] W fun e w'=>e=.returned (.bool (shutB (sub l x E)))∧Below W.heap.size W w':=fun W=>by
    rw[ba_extract]
    exact shut_r (sub l x E) W (by rw[sub_len hEl];omega)
  obtain⟨R,hR⟩:∃R,R=shutB (sub l x E):=⟨_,rfl⟩
  rw[←hR] at hsh ⊢
  have HN3:=Lib.hid hn3
  have HD0:=Lib.hid hD
  clear hD hnum hn3 hcc hnb hop hE hR hel
  intro A c w hr hn2
  unfold lxv
  obtain⟨xa,L,xb⟩:=X
  obtain rfl:xb=false:=hbd
  obtain rfl:xa=0:=haw
  have hr:Rt w 73 2 (.slice A L.length c) L.length (dcls L):=hr
  have hn2:L.length≤10000:=hn2
  go_enter Tryz.func30,Tryz.ntmps30
  go_wp2_with fail
  obtain⟨W,hW⟩:∃W,W=(((w.alloc (.cells #[.int .i64 0,.slice A L.length c,.bool false] 45)).alloc (.cells #[.int .i64 0,.int .i64 0,.int .i64 0,.bool false] 40)).alloc (.cells #[.int .i64 0,.slice none 0 0,.bool false] 45)):=⟨_,rfl⟩
  have k0:Bk W w.heap.size 45 #[.int .i64 0,.slice A L.length c,.bool false]:=by rw[hW];exact((Bk.new w _ _).alloc _).alloc _
  have k1:Bk W (w.heap.size+1) 40 #[.int .i64 0,.int .i64 0,.int .i64 0,.bool false]:=by rw[hW];exact(bk_second w _ _ _ _).alloc _
  have k2:Bk W (w.heap.size+1+1) 45 #[.int .i64 0,.slice none 0 0,.bool false]:=by rw[hW];simpa using Bk.new ((w.alloc _).alloc _) 45 _
  have hbw:Below w.heap.size w W:=by rw[hW];exact(((Below.refl _ w).alloc (Nat.le_refl _) _).alloc (by simp) _).alloc (by simp<;>omega) _
  have hbw2:Below w.heap.size w W:=hbw
  have hsz:W.heap.size=w.heap.size+3:=by rw[hW];simp
  have hrW:Rt W 73 2 (.slice A L.length c) L.length (dcls L):=hr.next hbw
  rw[←hW]
  obtain⟨p0,p1,p2,p3,p4,p5⟩:=k0.three
  obtain⟨q0,q1,q2,q3,q4,q5,q6,q7⟩:=k1.four
  obtain⟨r0,r1,r2,r3,r4,r5⟩:=k2.three
  have HW:=Lib.hid (And.intro k0 (And.intro k1 (And.intro k2 (And.intro hbw (And.intro hsz hrW)))))
  have a1:¬w.heap.size=w.heap.size+1:=by omega
  have a2:¬w.heap.size=w.heap.size+1+1:=by omega
  have a3:¬w.heap.size+1=w.heap.size+1+1:=by omega
  have a4:¬w.heap.size+1+1=w.heap.size+1:=by omega
  have a5:¬w.heap.size+1=w.heap.size:=by omega
  have a6:¬w.heap.size+1+1=w.heap.size:=by omega
  clear hW k0 k1 k2 hbw hbw2 hrW hr hsz
  have HC:=Lib.hid hbc
  have HO:=Lib.hid hoc
  have HEN:=Lib.hid hen
  have HSH:=Lib.hid hsh
  clear hbc hoc hen hsh
  have g1':(x:Int)≤(E:Int):=by omega
  have g2':(E:Int)≤(l.length:Int):=by omega
  go_upto_region 17 with (
    (go_at_call 36
     with_reducible refine(HC.out _).mono ?_
     rintro e w' ⟨rfl,rfl⟩))
  refine gen1 fun WB hbB hkB hsB=>?_
  have j0:Bk WB w.heap.size 45 #[.int .i64 0,.slice A L.length c,.bool false]:=HW.out.1.below hbB HW.out.1.lt
  have j1:Bk WB (w.heap.size+1) 40 #[.int .i64 0,.int .i64 0,.int .i64 0,.bool false]:=HW.out.2.1.below hbB HW.out.2.1.lt
  have j2:Bk WB (w.heap.size+1+1) 45 #[.int .i64 0,.slice none 0 0,.bool false]:=HW.out.2.2.1.below hbB HW.out.2.2.1.lt
  have jb:Below w.heap.size w WB:=HW.out.2.2.2.1.trans (hbB.mono HW.out.2.2.2.1.size)
  have jr:Rt WB 73 2 (.slice A L.length c) L.length (dcls L):=HW.out.2.2.2.2.2.next hbB
  clear p0 p1 p2 p3 p4 p5 q0 q1 q2 q3 q4 q5 q6 q7 r0 r1 r2 r3 r4 r5
  obtain⟨p0,p1,p2,p3,p4,p5⟩:=j0.three
  obtain⟨q0,q1,q2,q3,q4,q5,q6,q7⟩:=j1.four
  obtain⟨r0,r1,r2,r3,r4,r5⟩:=j2.three
  obtain⟨v0,v1,v2,v3,v4,v5⟩:=hkB.three
  have a7:¬w.heap.size+1=W.heap.size:=by have:=HW.out.2.2.2.2.1;omega
  have a8:¬w.heap.size+1+1=W.heap.size:=by have:=HW.out.2.2.2.2.1;omega
  have a9:¬W.heap.size=w.heap.size+1:=by have:=HW.out.2.2.2.2.1;omega
  have a10:¬W.heap.size=w.heap.size+1+1:=by have:=HW.out.2.2.2.2.1;omega
  have a11:¬W.heap.size=w.heap.size:=by have:=HW.out.2.2.2.2.1;omega
  have a12:¬w.heap.size=W.heap.size:=by have:=HW.out.2.2.2.2.1;omega
  have HB:=Lib.hid (And.intro j0 (And.intro j1 (And.intro j2 (And.intro jb (And.intro hkB jr)))))
  clear j0 j1 j2 jb jr hkB hbB
  go_wp2_with (
    (go_at_call 37
     with_reducible refine(HO.out _).mono ?_
     rintro e w' ⟨rfl,rfl⟩))
  go_loop [14] (fun s=>∃k:Nat,x≤k∧k≤l.length∧s=.int .i64 (k:Int)∧∀j,x≤j→j<k→digB (l.getD j 0)=true) (fun s=>l.length-(intOf s).toNat)
  case atStart=>exact⟨x,Nat.le_refl _,by omega,rfl,fun j h1 h2=>by omega⟩
  case round=>
    obtain⟨k,hxk,hkl,rfl,hno⟩:=hrel
    by_cases hlt:k<l.length
    ·obtain⟨i1,i2⟩:=ba_at l k hlt
     obtain⟨d,hd⟩:∃d,d=l.getD k 0:=⟨_,rfl⟩
     rw[←hd] at i2
     have e1:(k:Int)<(l.length:Int):=by omega
     have e2:(0:Int)≤(k:Int):=by omega
     cases hdig:digB d
     ·have e3:(clsOf d==6)=false:=hdig
      have hkD:k=x+D:=by
        have:digN l x=k-x:=span_uniq digB l x (k-x) (fun j hj=>hno _ (by omega) (by omega)) (by omega) (by rw[show x+(k-x)=k by omega,←hd];exact hdig)
        rw[HD0.out,this];omega
      clear hno hdig
      have hw:(decide (x<k)=false∧decide ((x:Int)<(k:Int))=false)∨(decide (x<k)=true∧decide ((x:Int)<(k:Int))=true∧((d.toNat:Int)==60)=false∧((d.toNat:Int)==62)=false):=by
        by_cases h:x<k
        ·refine .inr ⟨decide_eq_true h,decide_eq_true (by omega),?_,?_⟩
         ·rw[beq_eq_false_iff_ne];intro hh
          rcases HN3.out with h1|h1|⟨h1,h2,h3⟩
          ·omega
          ·omega
          ·rw[←hkD,←hd] at h2;omega
         ·rw[beq_eq_false_iff_ne];intro hh
          rcases HN3.out with h1|h1|⟨h1,h2,h3⟩
          ·omega
          ·omega
          ·rw[←hkD,←hd] at h3;omega
        ·exact .inl ⟨decide_eq_false h,decide_eq_false (by omega)⟩
      clear hkD hd
      rcases hw with ⟨f1,f2⟩|⟨f1,f2,f3,f4⟩
      all_goals (
        go_upto_region 31 with (first
            | (go_at_call 39
               refine(class_c d _).mono ?_
               rintro e w' ⟨rfl,rfl⟩)
            | (go_at_call 40
               with_reducible refine(HEN.out _).mono ?_
               rintro e w5 ⟨rfl,hb5⟩
               have k0:=HB.out.1.below hb5 HB.out.1.lt
               have k1:=HB.out.2.1.below hb5 HB.out.2.1.lt
               have k2:=HB.out.2.2.1.below hb5 HB.out.2.2.1.lt
               have kb:=HB.out.2.2.2.1.trans (hb5.mono HB.out.2.2.2.1.size)
               have kB:=HB.out.2.2.2.2.1.below hb5 HB.out.2.2.2.2.1.lt
               have kr:=HB.out.2.2.2.2.2.next hb5
               clear p0 p1 p2 p3 p4 p5 q0 q1 q2 q3 q4 q5 q6 q7 r0 r1 r2 r3 r4 r5 v0 v1 v2 v3 v4 v5
               obtain⟨p0,p1,p2,p3,p4,p5⟩:=k0.three
               obtain⟨q0,q1,q2,q3,q4,q5,q6,q7⟩:=k1.four
               obtain⟨r0,r1,r2,r3,r4,r5⟩:=k2.three
               obtain⟨v0,v1,v2,v3,v4,v5⟩:=kB.three
               have H5:=Lib.hid (And.intro k0 (And.intro k1 (And.intro k2 (And.intro kb (And.intro kB kr)))))
               clear hb5 k0 k1 k2 kb kB kr))
        go_region_held3 (fun w'=>w'.cell? ⟨W.heap.size,0,none⟩=some (.int .i64 0)∧w'.cell? ⟨W.heap.size,1,none⟩=some (.slice A L.length c)∧w'.cell? ⟨W.heap.size,2,none⟩=some (.bool false))
          (first
            | with_reducible exact⟨v0,v1,v2⟩
            | go_keep)
          ((go_at_call 42
            with_reducible refine(HSH.out _).mono ?_
            rintro e w6 ⟨rfl,hb6⟩
            have hb6:Below w5.heap.size w5 w6:=by first|exact hb6|exact(below_drewN' (Below.refl _ w5) 1).trans hb6
            have k1:=H5.out.2.1.below hb6 H5.out.2.1.lt
            have k2:=H5.out.2.2.1.below hb6 H5.out.2.2.1.lt
            have kb:=H5.out.2.2.2.1.trans (hb6.mono H5.out.2.2.2.1.size)
            have kB:=H5.out.2.2.2.2.1.below hb6 H5.out.2.2.2.2.1.lt
            have kr:=H5.out.2.2.2.2.2.next hb6
            clear p0 p1 p2 p3 p4 p5 q0 q1 q2 q3 q4 q5 q6 q7 r0 r1 r2 r3 r4 r5 v0 v1 v2 v3 v4 v5
            obtain⟨q0,q1,q2,q3,q4,q5,q6,q7⟩:=k1.four
            obtain⟨r0,r1,r2,r3,r4,r5⟩:=k2.three
            obtain⟨v0,v1,v2,v3,v4,v5⟩:=kB.three
            have H6:=Lib.hid (And.intro trivial (And.intro k1 (And.intro k2 (And.intro kb (And.intro kB kr)))))
            clear hb6 k1 k2 kb kB kr))
        all_goals (
          obtain⟨m1,m2,mb,mo⟩:=fin_td (.int .i64 6) (.int .i64 (x:Int)) (.int .i64 (E:Int)) (.bool (!R)) (.int .i64 0) (.slice A L.length c) (.bool false) H6.out.2.1 H6.out.2.2.1 (by omega) H6.out.2.2.2.1 (by omega) (by omega) _ rfl
          have mo:=mo (H6.out.2.2.2.2.2) (by decide) (by decide)
          generalize World.setCell _ _ _=W5 at m1 m2 mb mo ⊢
          obtain⟨s0,s1,s2,s3,_⟩:=m1.four
          obtain⟨t0,t1,t2,_⟩:=m2.three
          try go_wp2
          refine bodyPost_ret (v:=.tuple #[tkv ⟨6,x,E,!R⟩,lxv (⟨0,L,false⟩:Lx).aw (.slice A L.length c) (⟨0,L,false⟩:Lx).bd]) (by simp[results,Tryz.results30,go_sem,lxv,tkv,s0,s1,s2,s3,t0,t1,t2]) rfl ?_
          exact⟨_,rfl,⟨_,rfl,mo⟩,by first|exact mb|exact below_drewN' mb 1⟩))
     ·have e3:(clsOf d==6)=true:=hdig
      have hno2:∀j,x≤j→j<k+1→digB (l.getD j 0)=true:=fun j h1 h2=>by
        by_cases e:j=k
        ·subst e;rw[←hd];exact hdig
        ·exact hno j h1 (by omega)
      have HN:=Lib.hid hno2
      clear hno hno2 hd hdig
      go_wp2_with (
        (go_at_call 39
         refine(class_c d _).mono ?_
         rintro e w' ⟨rfl,rfl⟩))
      exact⟨⟨k+1,by omega,by omega,by go_num,HN.out⟩,by simp[intOf]<;>omega⟩
    ·obtain rfl:k=l.length:=by omega
     have hkD:l.length=x+D:=by
       rcases Nat.lt_or_ge (x+D) l.length with h|h
       ·have h2:=span_stop digB l x (by have:=HD0.out;show x+digN l x<_;omega)
        rw[show spanL digB l x=D from HD0.out.symm,hno _ (by omega) h] at h2
        cases h2
       ·omega
     clear hno
     have f1:decide (x<l.length)=true:=decide_eq_true hx
     have f2:decide ((x:Int)<(l.length:Int))=true:=decide_eq_true u1
     clear hkD
     go_upto_region 31 with (first
         | (go_at_call 39
            refine(class_c d _).mono ?_
            rintro e w' ⟨rfl,rfl⟩)
         | (go_at_call 40
            with_reducible refine(HEN.out _).mono ?_
            rintro e w5 ⟨rfl,hb5⟩
            have k0:=HB.out.1.below hb5 HB.out.1.lt
            have k1:=HB.out.2.1.below hb5 HB.out.2.1.lt
            have k2:=HB.out.2.2.1.below hb5 HB.out.2.2.1.lt
            have kb:=HB.out.2.2.2.1.trans (hb5.mono HB.out.2.2.2.1.size)
            have kB:=HB.out.2.2.2.2.1.below hb5 HB.out.2.2.2.2.1.lt
            have kr:=HB.out.2.2.2.2.2.next hb5
            clear p0 p1 p2 p3 p4 p5 q0 q1 q2 q3 q4 q5 q6 q7 r0 r1 r2 r3 r4 r5 v0 v1 v2 v3 v4 v5
            obtain⟨p0,p1,p2,p3,p4,p5⟩:=k0.three
            obtain⟨q0,q1,q2,q3,q4,q5,q6,q7⟩:=k1.four
            obtain⟨r0,r1,r2,r3,r4,r5⟩:=k2.three
            obtain⟨v0,v1,v2,v3,v4,v5⟩:=kB.three
            have H5:=Lib.hid (And.intro k0 (And.intro k1 (And.intro k2 (And.intro kb (And.intro kB kr)))))
            clear hb5 k0 k1 k2 kb kB kr))
     go_region_held3 (fun w'=>w'.cell? ⟨W.heap.size,0,none⟩=some (.int .i64 0)∧w'.cell? ⟨W.heap.size,1,none⟩=some (.slice A L.length c)∧w'.cell? ⟨W.heap.size,2,none⟩=some (.bool false))
       (first
         | with_reducible exact⟨v0,v1,v2⟩
         | go_keep)
       ((go_at_call 42
         with_reducible refine(HSH.out _).mono ?_
         rintro e w6 ⟨rfl,hb6⟩
         have hb6:Below w5.heap.size w5 w6:=by first|exact hb6|exact(below_drewN' (Below.refl _ w5) 1).trans hb6
         have k1:=H5.out.2.1.below hb6 H5.out.2.1.lt
         have k2:=H5.out.2.2.1.below hb6 H5.out.2.2.1.lt
         have kb:=H5.out.2.2.2.1.trans (hb6.mono H5.out.2.2.2.1.size)
         have kB:=H5.out.2.2.2.2.1.below hb6 H5.out.2.2.2.2.1.lt
         have kr:=H5.out.2.2.2.2.2.next hb6
         clear p0 p1 p2 p3 p4 p5 q0 q1 q2 q3 q4 q5 q6 q7 r0 r1 r2 r3 r4 r5 v0 v1 v2 v3 v4 v5
         obtain⟨q0,q1,q2,q3,q4,q5,q6,q7⟩:=k1.four
         obtain⟨r0,r1,r2,r3,r4,r5⟩:=k2.three
         obtain⟨v0,v1,v2,v3,v4,v5⟩:=kB.three
         have H6:=Lib.hid (And.intro trivial (And.intro k1 (And.intro k2 (And.intro kb (And.intro kB kr)))))
         clear hb6 k1 k2 kb kB kr))
     all_goals (
       obtain⟨m1,m2,mb,mo⟩:=fin_td (.int .i64 6) (.int .i64 (x:Int)) (.int .i64 (E:Int)) (.bool (!R)) (.int .i64 0) (.slice A L.length c) (.bool false) H6.out.2.1 H6.out.2.2.1 (by omega) H6.out.2.2.2.1 (by omega) (by omega) _ rfl
       have mo:=mo (H6.out.2.2.2.2.2) (by decide) (by decide)
       generalize World.setCell _ _ _=W5 at m1 m2 mb mo ⊢
       obtain⟨s0,s1,s2,s3,_⟩:=m1.four
       obtain⟨t0,t1,t2,_⟩:=m2.three
       try go_wp2
       refine bodyPost_ret (v:=.tuple #[tkv ⟨6,x,E,!R⟩,lxv (⟨0,L,false⟩:Lx).aw (.slice A L.length c) (⟨0,L,false⟩:Lx).bd]) (by simp[results,Tryz.results30,go_sem,lxv,tkv,s0,s1,s2,s3,t0,t1,t2]) rfl ?_
       exact⟨_,rfl,⟨_,rfl,mo⟩,by first|exact mb|exact below_drewN' mb 1⟩)
set_option maxHeartbeats 4000000 in
theorem rstep_doc0 (l:List UInt8) (x:Nat) (X:Lx) (hl:l.length≤900) (hx:x<l.length) (hbd:X.bd=true) (d:Dl) (r:List Dl) (hX:X.pd=d::r) (hok:(hereL l x d.1 d.2).2=false):StepR l x X ⟨7,x,(hereL l x d.1 d.2).1,true⟩ X:=by
  have hhc:∀W,Calls Tryz.prog 35 #[.string ⟨l.toArray⟩,.int .i64 (x:Int),.agg #[.string ⟨d.1.toArray⟩,.bool d.2]] W fun e w'=>e=.returned (.tuple #[.int .i64 ((hereL l x d.1 d.2).1:Int),.int .i64 0])∧Below W.heap.size W w':=fun W=>by
    have h:=rhere_m l d.1 d.2 x W (by omega) (by omega)
    rw[hok] at h
    exact h
  obtain⟨E,hE⟩:∃E,E=(hereL l x d.1 d.2).1:=⟨_,rfl⟩
  rw[←hE] at hhc ⊢
  clear hE hok
  have HXX:=Lib.hid hX
  clear hX
  intro A c w hr hn2
  unfold lxv
  obtain⟨xa,L,xb⟩:=X
  obtain rfl:xb=true:=hbd
  have hr:Rt w 73 2 (.slice A L.length c) L.length (dcls L):=hr
  have hn2:L.length≤10000:=hn2
  go_enter Tryz.func30,Tryz.ntmps30
  go_upto_region 1 with fail
  obtain⟨W,hW⟩:∃W,W=(((w.alloc (.cells #[.int .i64 xa,.slice A L.length c,.bool true] 45)).alloc (.cells #[.int .i64 0,.int .i64 0,.int .i64 0,.bool false] 40)).alloc (.cells #[.int .i64 0,.slice none 0 0,.bool false] 45)):=⟨_,rfl⟩
  have k0:Bk W w.heap.size 45 #[.int .i64 xa,.slice A L.length c,.bool true]:=by rw[hW];exact((Bk.new w _ _).alloc _).alloc _
  have k1:Bk W (w.heap.size+1) 40 #[.int .i64 0,.int .i64 0,.int .i64 0,.bool false]:=by rw[hW];exact(bk_second w _ _ _ _).alloc _
  have k2:Bk W (w.heap.size+1+1) 45 #[.int .i64 0,.slice none 0 0,.bool false]:=by rw[hW];simpa using Bk.new ((w.alloc _).alloc _) 45 _
  have hbw:Below w.heap.size w W:=by rw[hW];exact(((Below.refl _ w).alloc (Nat.le_refl _) _).alloc (by simp) _).alloc (by simp<;>omega) _
  have hbw2:Below w.heap.size w W:=hbw
  have hsz:W.heap.size=w.heap.size+3:=by rw[hW];simp
  have hrW:Rt W 73 2 (.slice A L.length c) L.length (dcls L):=hr.next hbw
  rw[←hW]
  obtain⟨p0,p1,p2,p3,p4,p5⟩:=k0.three
  obtain⟨q0,q1,q2,q3,q4,q5,q6,q7⟩:=k1.four
  obtain⟨r0,r1,r2,r3,r4,r5⟩:=k2.three
  have HW:=Lib.hid (And.intro k0 (And.intro k1 (And.intro k2 (And.intro hbw (And.intro hsz hrW)))))
  have a1:¬w.heap.size=w.heap.size+1:=by omega
  have a2:¬w.heap.size=w.heap.size+1+1:=by omega
  have a3:¬w.heap.size+1=w.heap.size+1+1:=by omega
  have a4:¬w.heap.size+1+1=w.heap.size+1:=by omega
  have a5:¬w.heap.size+1=w.heap.size:=by omega
  have a6:¬w.heap.size+1+1=w.heap.size:=by omega
  clear hW k0 k1 k2 hbw hbw2 hrW hr hsz
  have HHC:=Lib.hid hhc
  have hX:L=d::r:=HXX.out
  have hLl:L.length=r.length+1:=by rw[hX];rfl
  have hrd:=HW.out.2.2.2.2.2.rd
  rw[show dcls L=dcls (d::r) by rw[hX]] at hrd
  obtain⟨g,o,hA,hg,hnc,hcm,y0,y1⟩:=rd_first hrd hLl
  subst hA
  have HX:=Lib.hid (And.intro hX hLl)
  have n1:(0:Int)<(L.length:Int):=by omega
  have n2:0<L.length:=by omega
  have n3:(1:Int)≤(L.length:Int):=by omega
  have n4:(L.length:Int)≤(c:Int):=by omega
  clear hhc hrd hX hLl
  go_wp2_with (
    (go_at_call 35
     with_reducible refine(HHC.out _).mono ?_
     rintro e w5 ⟨rfl,hb5⟩
     have k0:=HW.out.1.below hb5 HW.out.1.lt
     have k1:=HW.out.2.1.below hb5 HW.out.2.1.lt
     have k2:=HW.out.2.2.1.below hb5 HW.out.2.2.1.lt
     have kb:=HW.out.2.2.2.1.trans (hb5.mono HW.out.2.2.2.1.size)
     have kr:=HW.out.2.2.2.2.2.next hb5
     clear p0 p1 p2 p3 p4 p5 q0 q1 q2 q3 q4 q5 q6 q7 r0 r1 r2 r3 r4 r5
     obtain⟨p0,p1,p2,p3,p4,p5⟩:=k0.three
     obtain⟨q0,q1,q2,q3,q4,q5,q6,q7⟩:=k1.four
     obtain⟨r0,r1,r2,r3,r4,r5⟩:=k2.three
     have H5:=Lib.hid (And.intro k0 (And.intro k1 (And.intro k2 (And.intro kb kr))))
     clear hb5 k0 k1 k2 kb kr))
  go_region
  all_goals (
    obtain⟨m1,m2,mb,mo⟩:=fin_td (.int .i64 7) (.int .i64 (x:Int)) (.int .i64 (E:Int)) (.bool true) (.int .i64 xa) (.slice (some ⟨g,o,none⟩) L.length c) (.bool true) H5.out.2.1 H5.out.2.2.1 (by omega) H5.out.2.2.2.1 (by omega) (by omega) _ rfl
    have mo:=mo (H5.out.2.2.2.2) (by decide) (by decide)
    generalize World.setCell _ _ _=W5 at m1 m2 mb mo ⊢
    obtain⟨s0,s1,s2,s3,_⟩:=m1.four
    obtain⟨t0,t1,t2,_⟩:=m2.three
    try go_wp2
    refine bodyPost_ret (v:=.tuple #[tkv ⟨7,x,E,true⟩,lxv (⟨xa,L,true⟩:Lx).aw (.slice (some ⟨g,o,none⟩) L.length c) (⟨xa,L,true⟩:Lx).bd]) (by simp[results,Tryz.results30,go_sem,lxv,tkv,s0,s1,s2,s3,t0,t1,t2]) rfl ?_
    exact⟨_,rfl,⟨_,rfl,mo⟩,by first|exact mb|exact below_drewN' mb 1⟩)
set_option maxHeartbeats 4000000 in
theorem rstep_doc1 (l:List UInt8) (x:Nat) (X:Lx) (hl:l.length≤900) (hx:x<l.length) (hbd:X.bd=true) (d:Dl) (r:List Dl) (hX:X.pd=d::r) (hok:(hereL l x d.1 d.2).2=true):StepR l x X ⟨7,x,(hereL l x d.1 d.2).1,false⟩ ⟨X.aw,r,!r.isEmpty⟩:=by
  have hhc:∀W,Calls Tryz.prog 35 #[.string ⟨l.toArray⟩,.int .i64 (x:Int),.agg #[.string ⟨d.1.toArray⟩,.bool d.2]] W fun e w'=>e=.returned (.tuple #[.int .i64 ((hereL l x d.1 d.2).1:Int),.int .i64 1])∧Below W.heap.size W w':=fun W=>by
    have h:=rhere_m l d.1 d.2 x W (by omega) (by omega)
    rw[hok] at h
    exact h
  obtain⟨E,hE⟩:∃E,E=(hereL l x d.1 d.2).1:=⟨_,rfl⟩
  rw[←hE] at hhc ⊢
  clear hE hok
  have HXX:=Lib.hid hX
  clear hX
  intro A c w hr hn2
  unfold lxv
  obtain⟨xa,L,xb⟩:=X
  obtain rfl:xb=true:=hbd
  have hr:Rt w 73 2 (.slice A L.length c) L.length (dcls L):=hr
  have hn2:L.length≤10000:=hn2
  go_enter Tryz.func30,Tryz.ntmps30
  go_upto_region 1 with fail
  obtain⟨W,hW⟩:∃W,W=(((w.alloc (.cells #[.int .i64 xa,.slice A L.length c,.bool true] 45)).alloc (.cells #[.int .i64 0,.int .i64 0,.int .i64 0,.bool false] 40)).alloc (.cells #[.int .i64 0,.slice none 0 0,.bool false] 45)):=⟨_,rfl⟩
  have k0:Bk W w.heap.size 45 #[.int .i64 xa,.slice A L.length c,.bool true]:=by rw[hW];exact((Bk.new w _ _).alloc _).alloc _
  have k1:Bk W (w.heap.size+1) 40 #[.int .i64 0,.int .i64 0,.int .i64 0,.bool false]:=by rw[hW];exact(bk_second w _ _ _ _).alloc _
  have k2:Bk W (w.heap.size+1+1) 45 #[.int .i64 0,.slice none 0 0,.bool false]:=by rw[hW];simpa using Bk.new ((w.alloc _).alloc _) 45 _
  have hbw:Below w.heap.size w W:=by rw[hW];exact(((Below.refl _ w).alloc (Nat.le_refl _) _).alloc (by simp) _).alloc (by simp<;>omega) _
  have hbw2:Below w.heap.size w W:=hbw
  have hsz:W.heap.size=w.heap.size+3:=by rw[hW];simp
  have hrW:Rt W 73 2 (.slice A L.length c) L.length (dcls L):=hr.next hbw
  rw[←hW]
  obtain⟨p0,p1,p2,p3,p4,p5⟩:=k0.three
  obtain⟨q0,q1,q2,q3,q4,q5,q6,q7⟩:=k1.four
  obtain⟨r0,r1,r2,r3,r4,r5⟩:=k2.three
  have HW:=Lib.hid (And.intro k0 (And.intro k1 (And.intro k2 (And.intro hbw (And.intro hsz hrW)))))
  have a1:¬w.heap.size=w.heap.size+1:=by omega
  have a2:¬w.heap.size=w.heap.size+1+1:=by omega
  have a3:¬w.heap.size+1=w.heap.size+1+1:=by omega
  have a4:¬w.heap.size+1+1=w.heap.size+1:=by omega
  have a5:¬w.heap.size+1=w.heap.size:=by omega
  have a6:¬w.heap.size+1+1=w.heap.size:=by omega
  clear hW k0 k1 k2 hbw hbw2 hrW hr hsz
  have HHC:=Lib.hid hhc
  have hX:L=d::r:=HXX.out
  have hLl:L.length=r.length+1:=by rw[hX];rfl
  have hrd:=HW.out.2.2.2.2.2.rd
  rw[show dcls L=dcls (d::r) by rw[hX]] at hrd
  obtain⟨g,o,hA,hg,hnc,hcm,y0,y1⟩:=rd_first hrd hLl
  subst hA
  have HX:=Lib.hid (And.intro hX hLl)
  have n1:(0:Int)<(L.length:Int):=by omega
  have n2:0<L.length:=by omega
  have n3:(1:Int)≤(L.length:Int):=by omega
  have n4:(L.length:Int)≤(c:Int):=by omega
  clear hhc hrd hX hLl
  go_wp2_with (
    (go_at_call 35
     with_reducible refine(HHC.out _).mono ?_
     rintro e w5 ⟨rfl,hb5⟩
     have k0:=HW.out.1.below hb5 HW.out.1.lt
     have k1:=HW.out.2.1.below hb5 HW.out.2.1.lt
     have k2:=HW.out.2.2.1.below hb5 HW.out.2.2.1.lt
     have kb:=HW.out.2.2.2.1.trans (hb5.mono HW.out.2.2.2.1.size)
     have kr:=HW.out.2.2.2.2.2.next hb5
     clear p0 p1 p2 p3 p4 p5 q0 q1 q2 q3 q4 q5 q6 q7 r0 r1 r2 r3 r4 r5
     obtain⟨p0,p1,p2,p3,p4,p5⟩:=k0.three
     obtain⟨q0,q1,q2,q3,q4,q5,q6,q7⟩:=k1.four
     obtain⟨r0,r1,r2,r3,r4,r5⟩:=k2.three
     have H5:=Lib.hid (And.intro k0 (And.intro k1 (And.intro k2 (And.intro kb kr))))
     clear hb5 k0 k1 k2 kb kr))
  have hrt:=H5.out.2.2.2.2
  rw[show dcls L=dcls (d::r) by rw[HX.out.1]] at hrt
  have hrt2:=rt_tail hrt HX.out.2
  have hbv:decide ((1:Int)<(L.length:Int)) = !r.isEmpty:=by rw[HX.out.2];cases r<;>simp<;>omega
  have hlen:L.length-1=r.length:=by rw[HX.out.2];rfl
  have HR:=Lib.hid (And.intro hrt2 (And.intro hbv hlen))
  clear hrt hrt2 hbv hlen
  go_region_held3 (fun w'=>w'.cell? ⟨w.heap.size,0,none⟩=some (.int .i64 xa)∧w'.cell? ⟨w.heap.size,1,none⟩=some (.slice (some ⟨g,o,none⟩) L.length c)∧w'.cell? ⟨w.heap.size,2,none⟩=some (.bool true))
    (first
      | with_reducible exact⟨p0,p1,p2⟩
      | go_keep)
    (fail)
  all_goals (
    generalize (if c=1 then some (⟨g,o,none⟩:Addr) else some ⟨g,o+2,none⟩)=AA at *
    obtain⟨m1,m2,mb,mo⟩:=fin_td (.int .i64 7) (.int .i64 (x:Int)) (.int .i64 (E:Int)) (.bool false) (.int .i64 xa) (.slice AA (L.length-1) (c-1)) (.bool (decide ((1:Int)<(L.length:Int)))) H5.out.2.1 H5.out.2.2.1 (by omega) H5.out.2.2.2.1 (by omega) (by omega) _ rfl
    have mo:=mo (HR.out.1) (by decide) (by decide)
    generalize World.setCell _ _ _=W5 at m1 m2 mb mo ⊢
    obtain⟨s0,s1,s2,s3,_⟩:=m1.four
    obtain⟨t0,t1,t2,_⟩:=m2.three
    try go_wp2
    refine bodyPost_ret (v:=.tuple #[tkv ⟨7,x,E,false⟩,lxv (⟨xa,r,!r.isEmpty⟩:Lx).aw (.slice AA (L.length-1) (c-1)) (⟨xa,r,!r.isEmpty⟩:Lx).bd]) (by simp[results,Tryz.results30,go_sem,lxv,tkv,s0,s1,s2,s3,t0,t1,t2,HR.out.2.1]) rfl ?_
    exact⟨_,rfl,⟨_,rfl,by rw[←HR.out.2.2];exact mo⟩,by first|exact mb|exact below_drewN' mb 1⟩)
end Go.Proofs.YtnclfgkpcpcapaaGreatDoor
