/- quillwortref09.Step is stepL: the cases joined. -/
import Derived.Test.YtcagfamdoaoimaaGreatDoorRq9
import Derived.Test.YtcagfamdoaoimaaGreatDoorEc9
import Derived.Test.YtcagfamdoaoimaaGreatDoorLa9
set_option linter.unusedVariables false
set_option linter.unusedSimpArgs false
set_option maxRecDepth 100000
set_option maxHeartbeats 8000000
namespace Go.Proofs.YtcagfamdoaoimaaGreatDoor
open Go.RowKit
theorem FP (d:List UInt8):∀n,(si d n).2≠0→iy (d.take (si d n).2)=(si d n).1
  | 0,h=>absurd rfl h
  | n+1,h=>by
    unfold si at h ⊢;split
    ·rfl
    ·rename_i h2;rw[aB h2] at h;exact FP d n h
theorem Jj (l:List UInt8) (x:Nat) (hx:x≤l.length) (h:0<(fj l x).2):iy (sub l x (x+(fj l x).2))=(fj l x).1:=by
  rw[kY l x _ hx];unfold fj at h ⊢;split at h
  ·simp at h
  ·rename_i hc;rw[aB hc];exact FP _ _ (by omega)
theorem C4 (l:List UInt8) (x:Nat) (X:Lx) (hl:l.length≤900) (hx:x<l.length) (hinv:X.bd=true→X.pd≠[]):lV l x X (eJ l x X).1 (eJ l x X).2:=by
  by_cases hb:X.bd=true
  ·obtain⟨d,r,hX⟩:∃d r,X.pd=d::r:=by
     cases h:X.pd with
     | nil=>exact absurd h (hinv hb)
     | cons d r=>exact⟨d,r,rfl⟩
   have hs:eJ l x X=og l x X d r:=by unfold eJ;rw[hb,hX]
   rw[hs];unfold og
   cases hok:(fJ l x d.1 d.2).2
   ·exact Ap l x X hl hx hb d r hX hok
   ·exact An l x X hl hx hb d r hX hok
  ·have hb:X.bd=false:=by simpa using hb
   have hs:eJ l x X=(fD l x,fA (sub l x (fD l x).to) (fD l x).kd X):=by unfold eJ;rw[hb]
   rw[hs];by_cases hbl:x<fE l x
   ·have hp:fD l x=⟨1,x,fE l x,false⟩:=by unfold fD;rw[aE ((rV l x hx).1 hbl)]
    rw[hp]
    have:fA (sub l x (fE l x)) 1 X=X:=by obtain⟨a,p,b⟩:=X;obtain rfl:b=false:=hb;rfl
    show lV l x X _ (fA (sub l x (fE l x)) 1 X);rw[this];exact xU l x X hl hx hb hbl
   ·have hnb:fE l x=x:=by have:=(mO l _ x rfl (by omega)).1;omega
    have hnb2:¬(gO (l.getD x 0)=true∨gV l x=true):=fun h=>hbl ((rV l x hx).2 h)
    by_cases h10:(l.getD x 0).toNat=10
    ·have hp:fD l x=⟨2,x,x+1,false⟩:=by unfold fD;rw[aB hnb2,aE h10]
     rw[hp];exact EH l x X hl hx hb hnb h10
    ·by_cases h35:(l.getD x 0).toNat=35
     ·have hp:fD l x=⟨3,x,fM l x,false⟩:=by unfold fD;rw[aB hnb2,aB h10,aE h35]
      rw[hp];exact uN l x X hl hx hb hnb h35
     ·by_cases hop:0<(fj l x).2
      ·have hp:fD l x=⟨4,x,x+(fj l x).2,false⟩:=by unfold fD;rw[aB hnb2,aB h10,aB h35,aE hop]
       rw[hp];have ho:=Jj l x (by omega) hop;show lV l x X _ (fA (sub l x (x+(fj l x).2)) 4 X);by_cases h45:(fj l x).1=4∨(fj l x).1=5
       ·have:fA (sub l x (x+(fj l x).2)) 4 X=⟨((fj l x).1:Int),X.pd,false⟩:=by
          unfold fA;rw[aB (by decide),aB (by decide),aE rfl,ho,aE h45]
        rw[this];exact Am l x X hl hx hb hnb h10 h35 hop h45
       ·have:fA (sub l x (x+(fj l x).2)) 4 X=⟨0,X.pd,false⟩:=by
          unfold fA;rw[aB (by decide),aB (by decide),aE rfl,ho,aB h45]
        rw[this];exact EG l x X hl hx hb hnb h10 h35 hop ⟨fun h=>h45 (.inl h),fun h=>h45 (.inr h)⟩
      ·have hop0:(fj l x).2=0:=by omega
       by_cases hn:mC l x=true
       ·have hp:fD l x=⟨5,x,x+l9 l x,false⟩:=by unfold fD;rw[aB hnb2,aB h10,aB h35,aB hop,aE hn]
        rw[hp];exact C3 l x X hl hx hb hnb h10 h35 hop0 hn
       ·have hp:fD l x=⟨6,x,x+js l x,!lN (sub l x (x+js l x))⟩:=by unfold fD;rw[aB hnb2,aB h10,aB h35,aB hop,aB hn]
        rw[hp];have hn:mC l x=false:=by simpa using hn
        show lV l x X _ (fA (sub l x (x+js l x)) 6 X);by_cases haw:X.aw=0
        ·have:fA (sub l x (x+js l x)) 6 X=⟨0,X.pd,false⟩:=by
           unfold fA;rw[aB (by decide),aB (by decide),aB (by decide),aE rfl,aB (fun h=>h haw)]
         rw[this];exact xT l x X hl hx hb hnb h10 h35 hop0 hn haw
        ·have:fA (sub l x (x+js l x)) 6 X=⟨0,X.pd++[(pT (lK (sub l x (x+js l x))),decide (X.aw=5))],false⟩:=by
           unfold fA;rw[aB (by decide),aB (by decide),aB (by decide),aE rfl,aE haw]
         rw[this];exact xS l x X hl hx hb hnb h10 h35 hop0 hn haw
def Mc (X:Lx) (x:Nat):Prop:=(X.bd=true→X.pd≠[])∧X.pd.length≤x
theorem Dr (l:List UInt8) (x:Nat) (X:Lx) (hx:x<l.length) (h:Mc X x):Mc (eJ l x X).2 (eJ l x X).1.to:=by
  have hto:=iu l x hx X;obtain⟨h1,h2⟩:=h;unfold eJ at hto ⊢;split
  ·rename_i d r hb hp;rw[hb,hp] at hto;simp only at hto;unfold og at hto ⊢;split
   ·rename_i hok;rw[aE hok] at hto;refine⟨fun h=>?_,?_⟩
    ·intro h3;have h:(!r.isEmpty)=true:=h;have h3:r=[]:=h3;rw[h3] at h
     cases h
    ·show r.length≤_
     have:X.pd.length=r.length+1:=by rw[hp];rfl
     have:=hto.2.1
     omega
   ·rename_i hok;rw[aB hok] at hto;exact⟨h1,by have:=hto.2.1;show X.pd.length≤_;omega⟩
  ·rename_i hne;have hto2:x<(fD l x).to:=(oE l x hx).2.1;refine⟨?_,?_⟩
   ·unfold fA;split
    ·intro h;cases h
    ·split
     ·intro h h3;have h:(!X.pd.isEmpty)=true:=h;have h3:X.pd=[]:=h3;rw[h3] at h
      cases h
     ·split
      ·intro h;cases h
      ·split
       ·intro h;cases h
       ·intro h;cases h
   ·show (fA _ _ X).pd.length≤(fD l x).to;unfold fA;split
    ·show X.pd.length≤_;omega
    ·split
     ·show X.pd.length≤_;omega
     ·split
      ·show X.pd.length≤_;omega
      ·split
       ·show (if _ then _ else _:List Dl).length≤_;split
        ·rw[aH];show X.pd.length+1≤_;omega
        ·omega
       ·show X.pd.length≤_;omega
theorem K3 (l:List UInt8) (w:World) (hl:l.length≤900) :
    Calls Tryz.prog 34 #[.string ⟨l.toArray⟩] w fun e w'=>∃v1 v2,e=.returned (.tuple #[v1,v2])∧w'.ownsRow w.heap.size 54 4 v1 (iR l).1.length (jw (iR l).1)∧CH w' (iR l).2 v2∧Below w.heap.size w w':=by
  obtain⟨i0,hi,hz0,hz1,hz2⟩:=cz Tryz.infoToken;obtain⟨LL,hLL⟩:∃LL,LL=iR l:=⟨_,rfl⟩;rw[←hLL];have HLL:=aa hLL;clear hLL;go_enter Tryz.func34,Tryz.ntmps34;go_upto_region 3 with fail
  refine Dw fun W hbW hk0 hk1 hsW=>?_
  have HW:=aa (ac hbW (ac hk0 (ac hk1 hsW)));clear hbW hk0 hk1 hsW;go_wp2_with fail
  go_loopw [4,6,7,8] (fun o i a b wr=>∃(ts:List Tk) (x:Nat) (X:Lx) (A:Option Addr) (c:Nat),i=.int .i64 (x:Int)∧x≤l.length∧ts.length≤x∧Mc X x∧wr.ownsRow (w.heap.size+2) 54 4 o ts.length (jw ts) ∧
      Bk wr w.heap.size 49 #[.int .i64 0,.slice none 0 0,.bool false]∧Bk wr (w.heap.size+1) 49 #[.int .i64 X.aw,.slice A X.pd.length c,.bool X.bd]∧Rt wr 124 2 (.slice A X.pd.length c) X.pd.length (eS X.pd)∧Below w.heap.size w wr∧LL=(ts++(uQ l x X).1,(uQ l x X).2)) (fun o i a b _=>l.length-(intOf i).toNat)
  case atStart=>
    exact⟨[],0,xk,none,0,rfl,bK _,an _,⟨(fun h=>by cases h),an _⟩,bV _ _ _ _,HW.out.2.1,HW.out.2.2.1,Rt.nil _ _ _,HW.out.1,HLL.out⟩
  case round=>
    obtain⟨ts,x,X,A,c,rfl,hxl,htl,hinv,hown,hk0,hk1,hrt,hbw,hLX⟩:=hrel;obtain⟨A2,n2,c2,rfl⟩:=dR hown;obtain rfl:=eF hown;by_cases hlt:x<l.length
    ·have u1:(x:Int)<(l.length:Int):=by omega
     have hstep:=C4 l x X hl hlt hinv.1 A c;have hinv2:=Dr l x X hlt hinv;have hto:=iu l x hlt X;have hLX2:LL=((ts++[(eJ l x X).1])++(uQ l (eJ l x X).1.to (eJ l x X).2).1,(uQ l (eJ l x X).1.to (eJ l x X).2).2):=by
       rw[hLX,wN l x X,aE hlt];simp
     generalize eJ l x X=TY at hstep hinv2 hto hLX2;obtain⟨⟨kd,fr,tt,op⟩,Y⟩:=TY;obtain⟨p0,p1,p2,p3,p4,p5⟩:=hk1.three;have hsz:w.heap.size+2≤wr.heap.size:=by have:=hk1.lt;omega
     have HP:=aa (ac hstep (ac hinv (ac hinv2 (ac hto (ac hLX2 (ac hown (ac hk0 (ac hk1 (ac hrt hbw)))))))));clear hstep hinv hinv2 hto hLX2 hown hk0 hk1 hrt hbw hLX
     go_wp2_with (first
       | (go_at_call 60;refine(HP.out.1 wr HP.out.2.2.2.2.2.2.2.2.1 (by have:=HP.out.2.1.2;omega)).mono ?_;rintro e w5 ⟨v,rfl,⟨v1,rfl,hr5⟩,hb5⟩;obtain⟨A1,c1,rfl⟩:=hr5.form;unfold ir jP;have H5:=aa (ac hr5 hb5);clear hr5 hb5)
       | (at_builtin
          refine dY rfl (.tmp 21) (.tmp 23) 46 rfl (w.heap.size+2) 54 i0 _ 4 32 Tryz.underlying46 hi hz0 hz1 hz2 rfl (by decide) (.slice A2 ts.length c2) ts.length (jw ts) rfl ((((dQ HP.out.2.2.2.2.2.1 H5.out.2).alloc _).alloc _).alloc _) (.slice (some ⟨w5.heap.size+1+1,0,none⟩) 1 1) 1 (w5.heap.size+1+1+1) (jw [⟨kd,fr,tt,op⟩]) rfl (by have hr:=fL ((w5.alloc (.cells #[.int .i64 (kd:Int),.int .i64 (fr:Int),.int .i64 (tt:Int),.bool op] 54)).alloc (.cells #[.int .i64 Y.aw,.slice A1 Y.pd.length c1,.bool Y.bd] 49)) (jw [⟨kd,fr,tt,op⟩]) 54 4 1 rfl (by omega);rw[show ((w5.alloc (.cells #[.int .i64 (kd:Int),.int .i64 (fr:Int),.int .i64 (tt:Int),.bool op] 54)).alloc (.cells #[.int .i64 Y.aw,.slice A1 Y.pd.length c1,.bool Y.bd] 49)).heap.size=w5.heap.size+1+1 by simp] at hr;exact hr) (FS _) (by unfold maxLen;omega) (by omega) (by have:=H5.out.2.size;simp;omega) ?_;intro v3 w3 hown3 hg3 hv3;have hne:∀k,(Value.slice A2 ts.length c2).ownBlock=some k→w.heap.size+2≤k∧k<wr.heap.size:=fun k hk=>HP.out.2.2.2.2.2.1.lt k hk
          have h5s:=H5.out.2.size;have m0:Bk w3 w.heap.size 49 #[.int .i64 0,.slice none 0 0,.bool false]:=((((HP.out.2.2.2.2.2.2.1.below H5.out.2 HP.out.2.2.2.2.2.2.1.lt).alloc _).alloc _).alloc _).grown hg3 (fun e=>by have:=(hne _ e.symm).1;omega);have m1:Bk w3 (w.heap.size+1) 49 #[.int .i64 X.aw,.slice A X.pd.length c,.bool X.bd]:=((((HP.out.2.2.2.2.2.2.2.1.below H5.out.2 HP.out.2.2.2.2.2.2.2.1.lt).alloc _).alloc _).alloc _).grown hg3 (fun e=>by have:=(hne _ e.symm).1;omega);have m7:Bk w3 w5.heap.size 54 #[.int .i64 (kd:Int),.int .i64 (fr:Int),.int .i64 (tt:Int),.bool op]:=(((Bk.new w5 _ _).alloc _).alloc _).grown hg3 (fun e=>by have:=(hne _ e.symm).2;omega);have m8:Bk w3 (w5.heap.size+1) 49 #[.int .i64 Y.aw,.slice A1 Y.pd.length c1,.bool Y.bd]:=((eT w5 _ _ _ _).alloc _).grown hg3 (fun e=>by have:=(hne _ e.symm).2;omega);have hr3:Rt w3 124 2 (.slice A1 Y.pd.length c1) Y.pd.length (eS Y.pd):=(((H5.out.1.next (aZ (aD _ _) (an _) _)).next (aZ (aD _ _) (an _) _)).next (aZ (aD _ _) (an _) _)).keep hg3 (fun kk hk=>by obtain⟨cs,t2,fr2,h1,h2⟩:=jN ((((dQ HP.out.2.2.2.2.2.1 H5.out.2).alloc _).alloc _).alloc _) kk hk;exact⟨t2,cs,fr2,h1,by rw[h2];decide⟩);have hb5w:Below w.heap.size w w5:=HP.out.2.2.2.2.2.2.2.2.2.trans (H5.out.2.mono HP.out.2.2.2.2.2.2.2.2.2.size);have hb3:Below w.heap.size w w3:=cR (((hb5w.alloc hb5w.size _).alloc (by simp;omega) _).alloc (by simp;omega) _) hg3 (by simp;omega) (fun k hk=>by have:=(hne k hk).1;omega);obtain⟨A3,n3,c3,rfl⟩:=dR hown3;obtain rfl:=eF hown3;clear p0 p1 p2 p3 p4 p5;obtain⟨p0,p1,p2,p3,p4,p5⟩:=m1.three;obtain⟨q0,q1,q2,q3,_⟩:=m7.four;obtain⟨r0,r1,r2,_⟩:=m8.three;have s1:¬w5.heap.size=w.heap.size+1:=by omega
          have s2:¬w5.heap.size+1=w.heap.size+1:=by omega
          have s3:¬w.heap.size+1=w5.heap.size:=by omega
          have H3:=aa (ac hown3 (ac hg3 (ac m0 (ac m1 (ac m7 (ac m8 (ac hr3 hb3)))))));clear hown3 hg3 hv3 m0 m1 m7 m8 hne h5s hr3 hb3 hb5w))
     have o3:=H3.out.1;have ne1:(Value.slice A3 (ts.length+1) c3).ownBlock≠some (w.heap.size+1):=fun h=>by have:=(o3.lt _ h).1;omega
     have z1:=((H3.out.2.2.2.1.set 0 (.int .i64 Y.aw)).set 1 (.slice A1 Y.pd.length c1)).set 2 (.bool Y.bd);have z0:=((H3.out.2.2.1.far (p:=⟨w.heap.size+1,0,none⟩) (by show w.heap.size≠w.heap.size+1;omega) (.int .i64 Y.aw)).far (p:=⟨w.heap.size+1,1,none⟩) (by show w.heap.size≠w.heap.size+1;omega) (.slice A1 Y.pd.length c1)).far (p:=⟨w.heap.size+1,2,none⟩) (by show w.heap.size≠w.heap.size+1;omega) (.bool Y.bd);have zo:=eU (p:=⟨w.heap.size+1,2,none⟩) (eU (p:=⟨w.heap.size+1,1,none⟩) (eU (p:=⟨w.heap.size+1,0,none⟩) o3 ne1 (.int .i64 Y.aw)) ne1 (.slice A1 Y.pd.length c1)) ne1 (.bool Y.bd);have zr:=H3.out.2.2.2.2.2.2.1.keep (eh (eh (eh (fy w3 (some (w.heap.size+1))) 0 (.int .i64 Y.aw)) 1 (.slice A1 Y.pd.length c1)) 2 (.bool Y.bd)) (H3.out.2.2.2.1.row (by decide));have zb:=((H3.out.2.2.2.2.2.2.2.setCell (p:=⟨w.heap.size+1,0,none⟩) (by show w.heap.size≤w.heap.size+1;omega) (.int .i64 Y.aw)).setCell (p:=⟨w.heap.size+1,1,none⟩) (by show w.heap.size≤w.heap.size+1;omega) (.slice A1 Y.pd.length c1)).setCell (p:=⟨w.heap.size+1,2,none⟩) (by show w.heap.size≤w.heap.size+1;omega) (.bool Y.bd);obtain⟨t1,t2,t3,_⟩:=HP.out.2.2.2.1;have t2:x<tt:=t2;have t3:tt≤l.length:=t3;refine⟨⟨ts++[⟨kd,fr,tt,op⟩],tt,Y,A1,c1,rfl,t3,by simp;omega,HP.out.2.2.1,?_,z0,z1,zr,zb,HP.out.2.2.2.2.1⟩,by simp[intOf];omega⟩;rw[xE,aH];exact zo
    ·obtain rfl:x=l.length:=by omega
     have hend:LL=(ts,X):=by rw[hLX,wN,aB (by omega)];simp
     obtain⟨p0,p1,p2,p3,p4,p5⟩:=hk1.three;obtain⟨q0,q1,q2,q3,q4,q5⟩:=hk0.three;have HP:=aa (ac hown (ac hk0 (ac hk1 (ac hrt hbw))));clear hown hk0 hk1 hrt hbw hLX hinv HLL;subst hend;have s1:¬w.heap.size+1=w.heap.size:=by omega
     have s2:¬w.heap.size=w.heap.size+1:=by omega
     go_wp2_with fail;go_region;all_goals (
       have ne0:(Value.slice A2 ts.length c2).ownBlock≠some w.heap.size:=fun h=>by have:=(HP.out.1.lt _ h).1;omega
       have z0:=((HP.out.2.1.set 0 (.int .i64 X.aw)).set 1 (.slice A X.pd.length c)).set 2 (.bool X.bd);have zo:=eU (p:=⟨w.heap.size,2,none⟩) (eU (p:=⟨w.heap.size,1,none⟩) (eU (p:=⟨w.heap.size,0,none⟩) HP.out.1 ne0 (.int .i64 X.aw)) ne0 (.slice A X.pd.length c)) ne0 (.bool X.bd);have zr:=HP.out.2.2.2.1.keep (eh (eh (eh (fy wr (some w.heap.size)) 0 (.int .i64 X.aw)) 1 (.slice A X.pd.length c)) 2 (.bool X.bd)) (HP.out.2.1.row (by decide));have zb:=((HP.out.2.2.2.2.setCell (p:=⟨w.heap.size,0,none⟩) (an _) (.int .i64 X.aw)).setCell (p:=⟨w.heap.size,1,none⟩) (an _) (.slice A X.pd.length c)).setCell (p:=⟨w.heap.size,2,none⟩) (an _) (.bool X.bd);have z0:Bk _ w.heap.size 49 #[.int .i64 X.aw,.slice A X.pd.length c,.bool X.bd]:=z0;generalize World.setCell _ _ _=W5 at z0 zo zr zb ⊢;obtain⟨t0,t1,t2,_⟩:=z0.three;try go_wp2
       refine az (v:=.tuple #[.slice A2 ts.length c2,ir X.aw (.slice A X.pd.length c) X.bd]) (by simp[results,Tryz.results34,go_sem,ir,t0,t1,t2]) rfl ?_;exact⟨_,_,rfl,fF zo (by omega),⟨_,rfl,zr⟩,by first|exact zb|exact dM zb 1⟩)
end Go.Proofs.YtcagfamdoaoimaaGreatDoor
