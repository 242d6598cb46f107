/- quillwortref09.Step is stepL: the cases joined. -/
import Derived.Test.YtcagfamdoaoimaaGreatDoorRq9
import Derived.Test.YtcagfamdoaoimaaGreatDoorEc9
import Derived.Test.YtcagfamdoaoimaaGreatDoorLa9
import Derived.Test.YtcagfamdoaoimaaGreatDoorMem
import Derived.Test.YtcagfamdoaoimaaGreatDoorSt9
import Derived.Test.YtcagfamdoaoimaaGreatDoorPl13
set_option linter.unusedVariables false
set_option linter.unusedSimpArgs false
set_option maxRecDepth 100000
set_option maxHeartbeats 8000000
namespace Go.Proofs.YtcagfamdoaoimaaGreatDoor
open Go.RowKit
variable {t:Tk} (l:List UInt8) (x:Nat) (k:Int) (w:World) (X:Lx)
theorem FN (d:List UInt8):∀n,(sc d n).2≠0→iu (d.take (sc d n).2)=(sc d n).1
  | 0,h=>absurd rfl h
  | n+1,h=>by
    unfold sc at h ⊢;split
    ·rfl
    ·rename_i h2;rw[aB h2] at h;exact FN d n h
theorem Jn (hx:x≤l.length) (h:0<(fp l x).2):iu (sub l x (x+(fp l x).2))=(fp l x).1:=by
  rw[vg l x _ hx];unfold fp at h ⊢;split at h
  ·simp at h
  ·rename_i hc;rw[aB hc];exact FN _ _ (by omega)
theorem C2 (hl:l.length≤900) (hx:x<l.length) (hinv:X.bd=true→X.pd≠[]):lT l x X (eZ l x X).1 (eZ l x X).2:=by
  by_cases hb:X.bd=true
  ·obtain⟨d,r,hX⟩:∃d r,X.pd=d::r:=by
     cases h:X.pd with
     | nil=>exact absurd h (hinv hb)
     | cons d r=>exact⟨d,r,rfl⟩
   have hs:eZ l x X=nY l x X d r:=by unfold eZ;rw[hb,hX]
   rw[hs];unfold nY
   cases hok:(gm l x d.1 d.2).2
   ·exact Aw l x X hl hx hb d r hX hok
   ·exact As l x X hl hx hb d r hX hok
  ·have hb:X.bd=false:=by simpa using hb
   have hs:eZ l x X=(fE l x,fB (sub l x (fE l x).to) (fE l x).kd X):=by unfold eZ;rw[hb]
   rw[hs];by_cases hbl:x<fF l x
   ·have hp:fE l x=⟨1,x,fF l x,false⟩:=by unfold fE;rw[aD ((rT l x hx).1 hbl)]
    rw[hp]
    have:fB (sub l x (fF l x)) 1 X=X:=by obtain⟨a,p,b⟩:=X;obtain rfl:b=false:=hb;rfl
    show lT l x X _ (fB (sub l x (fF l x)) 1 X);rw[this];exact x9 l x X hl hx hb hbl
   ·have hnb:fF l x=x:=by have:=(mG l _ x rfl (by omega)).1;omega
    have hnb2:¬(gN (l.getD x 0)=true∨gS l x=true):=fun h=>hbl ((rT l x hx).2 h)
    by_cases h10:(l.getD x 0).toNat=10
    ·have hp:fE l x=⟨2,x,x+1,false⟩:=by unfold fE;rw[aB hnb2,aD h10]
     rw[hp];exact EH l x X hl hx hb hnb h10
    ·by_cases h35:(l.getD x 0).toNat=35
     ·have hp:fE l x=⟨3,x,gD l x,false⟩:=by unfold fE;rw[aB hnb2,aB h10,aD h35]
      rw[hp];exact uU l x X hl hx hb hnb h35
     ·by_cases hop:0<(fp l x).2
      ·have hp:fE l x=⟨4,x,x+(fp l x).2,false⟩:=by unfold fE;rw[aB hnb2,aB h10,aB h35,aD hop]
       rw[hp];have ho:=Jn l x (by omega) hop;show lT l x X _ (fB (sub l x (x+(fp l x).2)) 4 X);by_cases h45:(fp l x).1=4∨(fp l x).1=5
       ·have:fB (sub l x (x+(fp l x).2)) 4 X=⟨((fp l x).1:Int),X.pd,false⟩:=by
          unfold fB;rw[aB (by decide),aB (by decide),aD rfl,ho,aD h45]
        rw[this];exact Ar l x X hl hx hb hnb h10 h35 hop h45
       ·have:fB (sub l x (x+(fp l x).2)) 4 X=⟨0,X.pd,false⟩:=by
          unfold fB;rw[aB (by decide),aB (by decide),aD rfl,ho,aB h45]
        rw[this];exact EG l x X hl hx hb hnb h10 h35 hop ⟨fun h=>h45 (.inl h),fun h=>h45 (.inr h)⟩
      ·have hop0:(fp l x).2=0:=by omega
       by_cases hn:mq l x=true
       ·have hp:fE l x=⟨5,x,x+l8 l x,false⟩:=by unfold fE;rw[aB hnb2,aB h10,aB h35,aB hop,aD hn]
        rw[hp];exact C1 l x X hl hx hb hnb h10 h35 hop0 hn
       ·have hp:fE l x=⟨6,x,x+js l x,!lK (sub l x (x+js l x))⟩:=by unfold fE;rw[aB hnb2,aB h10,aB h35,aB hop,aB hn]
        rw[hp];have hn:mq l x=false:=by simpa using hn
        show lT l x X _ (fB (sub l x (x+js l x)) 6 X);by_cases haw:X.aw=0
        ·have:fB (sub l x (x+js l x)) 6 X=⟨0,X.pd,false⟩:=by
           unfold fB;rw[aB (by decide),aB (by decide),aB (by decide),aD rfl,aB (fun h=>h haw)]
         rw[this];exact x8 l x X hl hx hb hnb h10 h35 hop0 hn haw
        ·have:fB (sub l x (x+js l x)) 6 X=⟨0,X.pd++[(pL (lH (sub l x (x+js l x))),decide (X.aw=5))],false⟩:=by
           unfold fB;rw[aB (by decide),aB (by decide),aB (by decide),aD rfl,aD haw]
         rw[this];exact xZ l x X hl hx hb hnb h10 h35 hop0 hn haw
def Mv (X:Lx) (x:Nat):Prop:=(X.bd=true→X.pd≠[])∧X.pd.length≤x
theorem Dp (hx:x<l.length) (h:Mv X x):Mv (eZ l x X).2 (eZ l x X).1.to:=by
  have hto:=jS l x hx X;obtain⟨h1,h2⟩:=h;unfold eZ at hto ⊢;split
  ·rename_i d r hb hp;rw[hb,hp] at hto;simp only at hto;unfold nY at hto ⊢;split
   ·rename_i hok;rw[aD hok] at hto;refine⟨fun h=>?_,?_⟩
    ·intro h3;have h:(!r.isEmpty)=true:=h;have h3:r=[]:=h3;rw[h3] at h
     cases h
    ·show r.length≤_
     have:X.pd.length=r.length+1:=by rw[hp];rfl
     have:=hto.2.1
     omega
   ·rename_i hok;rw[aB hok] at hto;exact⟨h1,by have:=hto.2.1;show X.pd.length≤_;omega⟩
  ·rename_i hne;have hto2:x<(fE l x).to:=(oy l x hx).2.1;refine⟨?_,?_⟩
   ·unfold fB;split
    ·intro h;cases h
    ·split
     ·intro h h3;have h:(!X.pd.isEmpty)=true:=h;have h3:X.pd=[]:=h3;rw[h3] at h
      cases h
     ·split
      ·intro h;cases h
      ·split
       ·intro h;cases h
       ·intro h;cases h
   ·show (fB _ _ X).pd.length≤(fE l x).to;unfold fB;split
    ·show X.pd.length≤_;omega
    ·split
     ·show X.pd.length≤_;omega
     ·split
      ·show X.pd.length≤_;omega
      ·split
       ·show (if _ then _ else _:List Dl).length≤_;split
        ·rw[aH];show X.pd.length+1≤_;omega
        ·omega
       ·show X.pd.length≤_;omega
theorem Lc (hl:l.length≤900) :
    Calls Tryz.prog 34 #[.string ⟨l.toArray⟩] w fun e w'=>∃v1 v2,e=.returned (.tuple #[v1,v2])∧w'.ownsRow w.heap.size 54 4 v1 (iX l).1.length (jC (iX l).1)∧CM w' (iX l).2 v2∧Below w.heap.size w w':=by
  obtain⟨i0,hi,hz0,hz1,hz2⟩:=cD Tryz.infoToken;obtain⟨LL,hLL⟩:∃LL,LL=iX l:=⟨_,rfl⟩;rw[←hLL];have HLL:=aa hLL;clear hLL;go_enter Tryz.func34,Tryz.ntmps34;go_upto_region 3 with fail
  refine Dv fun W hbW hk0 hk1 hsW=>?_
  have HW:=aa (ac hbW (ac hk0 (ac hk1 hsW)));clear hbW hk0 hk1 hsW;go_wp2_with fail
  go_loopw [4,6,7,8] (fun o i a b wr=>∃(ts:List Tk) (x:Nat) (X:Lx) (A:Option Addr) (c:Nat),i=.int .i64 (x:Int)∧x≤l.length∧ts.length≤x∧Mv X x∧wr.ownsRow (w.heap.size+2) 54 4 o ts.length (jC ts) ∧
      Bk wr w.heap.size 49 #[.int .i64 0,.slice none 0 0,.bool false]∧Bk wr (w.heap.size+1) 49 #[.int .i64 X.aw,.slice A X.pd.length c,.bool X.bd]∧Rt wr 124 2 (.slice A X.pd.length c) X.pd.length (fj X.pd)∧Below w.heap.size w wr∧LL=(ts++(yR l x X).1,(yR l x X).2)) (fun o i a b _=>l.length-(intOf i).toNat)
  case atStart=>
    exact⟨[],0,yO,none,0,rfl,bv _,au _,⟨(fun h=>by cases h),au _⟩,cj _ _ _ _,HW.out.2.1,HW.out.2.2.1,Rt.nil _ _ _,HW.out.1,HLL.out⟩
  case round=>
    obtain⟨ts,x,X,A,c,rfl,hxl,htl,hinv,hown,hk0,hk1,hrt,hbw,hLX⟩:=hrel;obtain⟨A2,n2,c2,rfl⟩:=dR hown;obtain rfl:=ei hown;by_cases hlt:x<l.length
    ·have u1:(x:Int)<(l.length:Int):=by omega
     have hstep:=C2 l x X hl hlt hinv.1 A c;have hinv2:=Dp l x X hlt hinv;have hto:=jS l x hlt X;have hLX2:LL=((ts++[(eZ l x X).1])++(yR l (eZ l x X).1.to (eZ l x X).2).1,(yR l (eZ l x X).1.to (eZ l x X).2).2):=by
       rw[hLX,Co l x X,aD hlt];simp
     generalize eZ l x X=TY at hstep hinv2 hto hLX2;obtain⟨⟨kd,fr,tt,op⟩,Y⟩:=TY;obtain⟨p0,p1,p2,p3,p4,p5⟩:=hk1.three;have hsz:w.heap.size+2≤wr.heap.size:=by have:=hk1.lt;omega
     have HP:=aa (ac hstep (ac hinv (ac hinv2 (ac hto (ac hLX2 (ac hown (ac hk0 (ac hk1 (ac hrt hbw)))))))));clear hstep hinv hinv2 hto hLX2 hown hk0 hk1 hrt hbw hLX
     go_wp2_with (first
       | (go_at_call 60;refine(HP.out.1 wr HP.out.2.2.2.2.2.2.2.2.1 (by have:=HP.out.2.1.2;omega)).mono ?_;rintro e w5 ⟨v,rfl,⟨v1,rfl,hr5⟩,hb5⟩;obtain⟨A1,c1,rfl⟩:=hr5.form;unfold ik jQ;have H5:=aa (ac hr5 hb5);clear hr5 hb5)
       | (at_builtin
          refine eD rfl (.tmp 21) (.tmp 23) 46 rfl (w.heap.size+2) 54 i0 _ 4 32 Tryz.underlying46 hi hz0 hz1 hz2 rfl (by decide) (.slice A2 ts.length c2) ts.length (jC ts) rfl ((((dS HP.out.2.2.2.2.2.1 H5.out.2).alloc _).alloc _).alloc _) (.slice (some ⟨w5.heap.size+1+1,0,none⟩) 1 1) 1 (w5.heap.size+1+1+1) (jC [⟨kd,fr,tt,op⟩]) rfl (by have hr:=fQ ((w5.alloc (.cells #[.int .i64 (kd:Int),.int .i64 (fr:Int),.int .i64 (tt:Int),.bool op] 54)).alloc (.cells #[.int .i64 Y.aw,.slice A1 Y.pd.length c1,.bool Y.bd] 49)) (jC [⟨kd,fr,tt,op⟩]) 54 4 1 rfl (by omega);rw[show ((w5.alloc (.cells #[.int .i64 (kd:Int),.int .i64 (fr:Int),.int .i64 (tt:Int),.bool op] 54)).alloc (.cells #[.int .i64 Y.aw,.slice A1 Y.pd.length c1,.bool Y.bd] 49)).heap.size=w5.heap.size+1+1 by simp] at hr;exact hr) (FR _) (by unfold maxLen;omega) (by omega) (by have:=H5.out.2.size;simp;omega) ?_;intro v3 w3 hown3 hg3 hv3;have hne:∀k,(Value.slice A2 ts.length c2).ownBlock=some k→w.heap.size+2≤k∧k<wr.heap.size:=fun k hk=>HP.out.2.2.2.2.2.1.lt k hk
          have h5s:=H5.out.2.size;have m0:Bk w3 w.heap.size 49 #[.int .i64 0,.slice none 0 0,.bool false]:=((((HP.out.2.2.2.2.2.2.1.below H5.out.2 HP.out.2.2.2.2.2.2.1.lt).alloc _).alloc _).alloc _).grown hg3 (fun e=>by have:=(hne _ e.symm).1;omega);have m1:Bk w3 (w.heap.size+1) 49 #[.int .i64 X.aw,.slice A X.pd.length c,.bool X.bd]:=((((HP.out.2.2.2.2.2.2.2.1.below H5.out.2 HP.out.2.2.2.2.2.2.2.1.lt).alloc _).alloc _).alloc _).grown hg3 (fun e=>by have:=(hne _ e.symm).1;omega);have m7:Bk w3 w5.heap.size 54 #[.int .i64 (kd:Int),.int .i64 (fr:Int),.int .i64 (tt:Int),.bool op]:=(((Bk.new w5 _ _).alloc _).alloc _).grown hg3 (fun e=>by have:=(hne _ e.symm).2;omega);have m8:Bk w3 (w5.heap.size+1) 49 #[.int .i64 Y.aw,.slice A1 Y.pd.length c1,.bool Y.bd]:=((fH w5 _ _ _ _).alloc _).grown hg3 (fun e=>by have:=(hne _ e.symm).2;omega);have hr3:Rt w3 124 2 (.slice A1 Y.pd.length c1) Y.pd.length (fj Y.pd):=(((H5.out.1.next (aY (aC _ _) (au _) _)).next (aY (aC _ _) (au _) _)).next (aY (aC _ _) (au _) _)).keep hg3 (fun kk hk=>by obtain⟨cs,t2,fr2,h1,h2⟩:=lO ((((dS HP.out.2.2.2.2.2.1 H5.out.2).alloc _).alloc _).alloc _) kk hk;exact⟨t2,cs,fr2,h1,by rw[h2];decide⟩);have hb5w:Below w.heap.size w w5:=HP.out.2.2.2.2.2.2.2.2.2.trans (H5.out.2.mono HP.out.2.2.2.2.2.2.2.2.2.size);have hb3:Below w.heap.size w w3:=cQ (((hb5w.alloc hb5w.size _).alloc (by simp;omega) _).alloc (by simp;omega) _) hg3 (by simp;omega) (fun k hk=>by have:=(hne k hk).1;omega);obtain⟨A3,n3,c3,rfl⟩:=dR hown3;obtain rfl:=ei hown3;clear p0 p1 p2 p3 p4 p5;obtain⟨p0,p1,p2,p3,p4,p5⟩:=m1.three;obtain⟨q0,q1,q2,q3,_⟩:=m7.four;obtain⟨r0,r1,r2,_⟩:=m8.three;have s1:¬w5.heap.size=w.heap.size+1:=by omega
          have s2:¬w5.heap.size+1=w.heap.size+1:=by omega
          have s3:¬w.heap.size+1=w5.heap.size:=by omega
          have H3:=aa (ac hown3 (ac hg3 (ac m0 (ac m1 (ac m7 (ac m8 (ac hr3 hb3)))))));clear hown3 hg3 hv3 m0 m1 m7 m8 hne h5s hr3 hb3 hb5w))
     have o3:=H3.out.1;have ne1:(Value.slice A3 (ts.length+1) c3).ownBlock≠some (w.heap.size+1):=fun h=>by have:=(o3.lt _ h).1;omega
     have z1:=((H3.out.2.2.2.1.set 0 (.int .i64 Y.aw)).set 1 (.slice A1 Y.pd.length c1)).set 2 (.bool Y.bd);have z0:=((H3.out.2.2.1.far (p:=⟨w.heap.size+1,0,none⟩) (by show w.heap.size≠w.heap.size+1;omega) (.int .i64 Y.aw)).far (p:=⟨w.heap.size+1,1,none⟩) (by show w.heap.size≠w.heap.size+1;omega) (.slice A1 Y.pd.length c1)).far (p:=⟨w.heap.size+1,2,none⟩) (by show w.heap.size≠w.heap.size+1;omega) (.bool Y.bd);have zo:=ff (p:=⟨w.heap.size+1,2,none⟩) (ff (p:=⟨w.heap.size+1,1,none⟩) (ff (p:=⟨w.heap.size+1,0,none⟩) o3 ne1 (.int .i64 Y.aw)) ne1 (.slice A1 Y.pd.length c1)) ne1 (.bool Y.bd);have zr:=H3.out.2.2.2.2.2.2.1.keep (ef (ef (ef (fD w3 (some (w.heap.size+1))) 0 (.int .i64 Y.aw)) 1 (.slice A1 Y.pd.length c1)) 2 (.bool Y.bd)) (H3.out.2.2.2.1.row (by decide));have zb:=((H3.out.2.2.2.2.2.2.2.setCell (p:=⟨w.heap.size+1,0,none⟩) (by show w.heap.size≤w.heap.size+1;omega) (.int .i64 Y.aw)).setCell (p:=⟨w.heap.size+1,1,none⟩) (by show w.heap.size≤w.heap.size+1;omega) (.slice A1 Y.pd.length c1)).setCell (p:=⟨w.heap.size+1,2,none⟩) (by show w.heap.size≤w.heap.size+1;omega) (.bool Y.bd);obtain⟨t1,t2,t3,_⟩:=HP.out.2.2.2.1;have t2:x<tt:=t2;have t3:tt≤l.length:=t3;refine⟨⟨ts++[⟨kd,fr,tt,op⟩],tt,Y,A1,c1,rfl,t3,by simp;omega,HP.out.2.2.1,?_,z0,z1,zr,zb,HP.out.2.2.2.2.1⟩,by simp[intOf];omega⟩;rw[xM,aH];exact zo
    ·obtain rfl:x=l.length:=by omega
     have hend:LL=(ts,X):=by rw[hLX,Co,aB (by omega)];simp
     obtain⟨p0,p1,p2,p3,p4,p5⟩:=hk1.three;obtain⟨q0,q1,q2,q3,q4,q5⟩:=hk0.three;have HP:=aa (ac hown (ac hk0 (ac hk1 (ac hrt hbw))));clear hown hk0 hk1 hrt hbw hLX hinv HLL;subst hend;have s1:¬w.heap.size+1=w.heap.size:=by omega
     have s2:¬w.heap.size=w.heap.size+1:=by omega
     go_wp2_with fail;go_region;all_goals (
       have ne0:(Value.slice A2 ts.length c2).ownBlock≠some w.heap.size:=fun h=>by have:=(HP.out.1.lt _ h).1;omega
       have z0:=((HP.out.2.1.set 0 (.int .i64 X.aw)).set 1 (.slice A X.pd.length c)).set 2 (.bool X.bd);have zo:=ff (p:=⟨w.heap.size,2,none⟩) (ff (p:=⟨w.heap.size,1,none⟩) (ff (p:=⟨w.heap.size,0,none⟩) HP.out.1 ne0 (.int .i64 X.aw)) ne0 (.slice A X.pd.length c)) ne0 (.bool X.bd);have zr:=HP.out.2.2.2.1.keep (ef (ef (ef (fD wr (some w.heap.size)) 0 (.int .i64 X.aw)) 1 (.slice A X.pd.length c)) 2 (.bool X.bd)) (HP.out.2.1.row (by decide));have zb:=((HP.out.2.2.2.2.setCell (p:=⟨w.heap.size,0,none⟩) (au _) (.int .i64 X.aw)).setCell (p:=⟨w.heap.size,1,none⟩) (au _) (.slice A X.pd.length c)).setCell (p:=⟨w.heap.size,2,none⟩) (au _) (.bool X.bd);have z0:Bk _ w.heap.size 49 #[.int .i64 X.aw,.slice A X.pd.length c,.bool X.bd]:=z0;generalize World.setCell _ _ _=W5 at z0 zo zr zb ⊢;obtain⟨t0,t1,t2,_⟩:=z0.three;try go_wp2
       refine aK (v:=.tuple #[.slice A2 ts.length c2,ik X.aw (.slice A X.pd.length c) X.bd]) (by simp[results,Tryz.results34,go_sem,ik,t0,t1,t2]) rfl ?_;exact⟨_,_,rfl,fK zo (by omega),⟨_,rfl,zr⟩,by first|exact zb|exact dN zb 1⟩)
theorem BP (t:Tk):(MD t).length=4:=rfl
section
open Go.RowKit Go.ChangeShapes Go.WideShapes Go.Deep
end
def tz (t:Tk):Tz:=⟨t.kd,t.fr,t.to,t.op⟩
def Ju (l:List UInt8):List Lf:=fG l ((iX l).1.map tz)
theorem LO {l:List UInt8} (h1:t.fr≤t.to) (h2:t.to≤l.length):yZ l (tz t)=true:=by
  unfold yZ tz;simp only[aT,bW];omega
theorem Ga {l:List UInt8} (h1:t.fr≤t.to) (h2:t.to≤l.length):kK l (tz t)=if jn (t.kd:Int)=true then [⟨t.kd,sub l t.fr t.to,t.fr,t.to⟩] else []:=by
  have h:=LO h1 h2;unfold kK Is;rw[h];by_cases hk:jn (t.kd:Int)=true
  ·rw[aD ⟨rfl,hk⟩,aD hk,aD rfl];rfl
  ·rw[aB (fun h=>hk h.2),aB hk]
theorem yU:((k==2)=true∧jn k=true)∨((k==2)=false∧(k==4)=true∧jn k=true)∨((k==2)=false∧(k==4)=false∧(k==5)=true∧jn k=true) ∨
    ((k==2)=false∧(k==4)=false∧(k==5)=false∧(k==6)=true∧jn k=true)∨((k==2)=false∧(k==4)=false∧(k==5)=false∧(k==6)=false∧jn k=false):=by
  unfold jn
  cases h4:k==4<;>cases h5:k==5<;>cases h6:k==6<;>cases h2:k==2<;>simp
theorem C3 (hl:l.length≤900) :
    Calls Tryz.prog 12 #[.string ⟨l.toArray⟩] w fun e w'=>∃v,e=.returned v∧w'.ownsRow w.heap.size 29 4 v (Ju l).length (iF (Ju l))∧Below w.heap.size w w':=by
  obtain⟨i0,hi0,hz0,hz1,hz2⟩:=cD Tryz.infoLeaf;have htile:=q9 l;have tlen:=qG l;unfold Ju;obtain⟨ts,hts⟩:∃ts,ts=(iX l).1:=⟨_,rfl⟩;obtain⟨Y,hY⟩:∃Y,Y=(iX l).2:=⟨_,rfl⟩;have hL:∀W,Calls Tryz.prog 34 #[.string ⟨l.toArray⟩] W fun e w'=>∃v1 v2,e=.returned (.tuple #[v1,v2])∧w'.ownsRow W.heap.size 54 4 v1 ts.length (jC ts)∧CM w' Y v2∧Below W.heap.size W w':=by
    intro W;rw[hts,hY];exact Lc l W hl
  rw[←hts] at htile tlen ⊢;clear hts hY;have HT:=aa (ac htile hL);clear htile hL;go_enter Tryz.func12,Tryz.ntmps12;go_wp2_with (
    (go_at_call 34;refine(HT.out.2 _).mono ?_;rintro e w2 ⟨v1,v2,rfl,ho,⟨v3,rfl,hr⟩,hb2⟩;obtain⟨A3,c3,rfl⟩:=hr.form;unfold ik;obtain⟨A,n,c,rfl⟩:=dR ho;obtain rfl:=ei ho;have hb3:=hb2.alloc hb2.size (.cells #[.int .i64 Y.aw,.slice A3 Y.pd.length c3,.bool Y.bd] 49);have hr3:=Rd.of_own (ho.alloc (.cells #[.int .i64 Y.aw,.slice A3 Y.pd.length c3,.bool Y.bd] 49));have H2:=aa (ac hr3 hb3);clear ho hb2 hr hb3 hr3))
  generalize World.alloc _ _=W at H2 ⊢;go_loopw [5,6] (fun o i wr=>∃k:Nat,k≤ts.length∧i=.int .i64 k∧wr.ownsRow W.heap.size 29 4 o (fG l ((ts.map tz).take k)).length (iF (fG l ((ts.map tz).take k)))∧Below W.heap.size W wr) (fun o i _=>ts.length-(intOf i).toNat)
  case atStart=>exact⟨0,bv _,rfl,cj _ _ _ _,aC _ _⟩
  case round=>
    obtain⟨k,hk,rfl,ho,hb⟩:=hrel;by_cases hlt:k<ts.length
    ·obtain⟨⟨kd,fr,tt,op⟩,hget⟩:∃t,ts[k]? = some t:=⟨_,ax hlt⟩;obtain⟨_,t2,t3,_⟩:=BQ HT.out.1 k _ hget;have t2:fr<tt:=t2;have t3:tt≤l.length:=t3;obtain⟨g,q,rfl,hgl,hc⟩:=iK BP (H2.out.1.keep hb (au _)) hget rfl;have hcw:∀w',Below W.heap.size W w'→w'.cell? ⟨g,q+k*4,none⟩=some (.int .i64 (kd:Int))∧w'.cell? ⟨g,q+k*4+1,none⟩=some (.int .i64 (fr:Int))∧w'.cell? ⟨g,q+k*4+2,none⟩=some (.int .i64 (tt:Int)):=fun w' hb'=>by
       obtain⟨g',q',he,_,hc'⟩:=iK BP (H2.out.1.keep hb' (au _)) hget rfl;injection he with he
       injection he with h1 h2
       subst h1 h2;exact⟨hc' 0 _ rfl,hc' 1 _ rfl,hc' 2 _ rfl⟩
     have HC:=aa hcw;clear hcw;have y0:wr.cell? ⟨g,q+k*4,none⟩=some (.int .i64 (kd:Int)):=hc 0 _ rfl;have y1:wr.cell? ⟨g,q+k*4+1,none⟩=some (.int .i64 (fr:Int)):=hc 1 _ rfl;have y2:wr.cell? ⟨g,q+k*4+2,none⟩=some (.int .i64 (tt:Int)):=hc 2 _ rfl;have u1:(k:Int)<(ts.length:Int):=by omega
     have u2:(0:Int)≤(k:Int):=by omega
     have v0:(0:Int)≤(fr:Int):=by omega
     have v1:(fr:Int)≤(tt:Int):=by omega
     have v2:(tt:Int)≤(l.length:Int):=by omega
     have hlen:(fG l ((ts.map tz).take k)).length≤100000:=by
       have:=lQ l ((ts.map tz).take k)
       rw[cm,cH] at this;omega
     have hsuc:=qH l (ts.map tz) (k:=k) (t:=tz ⟨kd,fr,tt,op⟩) (by rw[bc,hget];rfl);have hleaf:=Ga (l:=l) (t:=⟨kd,fr,tt,op⟩) (by show fr≤tt;omega) t3;have hleaf:kK l (tz ⟨kd,fr,tt,op⟩)=if jn (kd:Int)=true then [⟨kd,sub l fr tt,fr,tt⟩] else []:=hleaf;have hext:(ByteArray.mk l.toArray).extract fr tt=⟨(sub l fr tt).toArray⟩:=by rw[dX];rfl
     obtain⟨L,hL⟩:∃L,L=fG l ((ts.map tz).take k):=⟨_,rfl⟩;obtain⟨X,hX⟩:∃X,X=sub l fr tt:=⟨_,rfl⟩;rw[←hL] at hsuc ho hlen;rw[←hX] at hleaf hext;have kways:=yU (kd:Int);generalize jn (kd:Int)=bk at kways hleaf;obtain⟨A2,n2,c2,rfl⟩:=dR ho;obtain rfl:=ei ho;have hod:wr.drew.ownsRow W.heap.size 29 4 (.slice A2 L.length c2) L.length (iF L):=ho;have HP:=aa (ac ho (ac hb (ac hsuc (ac hleaf (ac hext hod)))));clear ho hb hsuc hleaf hext hod hc hget hL hX t2 t3;rcases kways with ⟨k2,rfl⟩|⟨k2,k4,rfl⟩|⟨k2,k4,k5,rfl⟩|⟨k2,k4,k5,k6,rfl⟩|⟨k2,k4,k5,k6,rfl⟩
     iterate 4
       ·go_upto_region 8 with fail
        go_region_held3 (fun w'=>w'.cell? ⟨g,q+k*4,none⟩=some (.int .i64 (kd:Int))∧w'.cell? ⟨g,q+k*4+1,none⟩=some (.int .i64 (fr:Int))∧w'.cell? ⟨g,q+k*4+2,none⟩=some (.int .i64 (tt:Int)))
          (first
            | with_reducible exact⟨y0,y1,y2⟩
            | go_keep)
          (first
            | (rw[HP.out.2.2.2.2.1];refine dV rfl (.tmp 38) (.tmp 63) 23 rfl W.heap.size 29 i0 _ 4 40 Tryz.underlying23 hi0 hz0 hz1 hz2 rfl (by decide) (.slice A2 L.length c2) L.length (iF L) (by simp[Act.eval]) (HP.out.2.2.2.2.2.alloc _) (.slice (some ⟨wr.heap.size,0,none⟩) 1 1) 1 (wr.heap.size+1) (iF [⟨kd,X,fr,tt⟩]) (by simp[Act.eval]) (fQ wr.drew (iF [⟨kd,X,fr,tt⟩]) 29 4 1 rfl (by omega)) (FU _) (by unfold maxLen;omega) (by omega) (by have:=HP.out.2.1.size;simp;omega) ?_;intro v6 w6 hown6 hg6 hv6;have hb6:Below W.heap.size W w6:=cQ (HP.out.2.1.drew.alloc (by have:=HP.out.2.1.size;simp;omega) _) hg6 (by have:=HP.out.2.1.size;simp;omega) (fun kk hk=>(HP.out.1.lt kk hk).1);obtain⟨y0,y1,y2⟩:=HC.out w6 hb6;have H6:=aa (ac hown6 hb6);clear hown6 hg6 hv6 hb6))
        all_goals (
          go_wp2_with fail;refine⟨⟨k+1,by omega,by go_num,?_,H6.out.2⟩,by simp[intOf];omega⟩;rw[HP.out.2.2.1,HP.out.2.2.2.1,aD rfl,yQ,aH];exact H6.out.1)
     ·go_wp2_with fail;refine⟨⟨k+1,by omega,by go_num,?_,HP.out.2.1⟩,by simp[intOf];omega⟩;rw[HP.out.2.2.1,HP.out.2.2.2.1,aB (by decide),bz];exact HP.out.1
    ·obtain rfl:k=ts.length:=by omega
     rw[bR (by simp)] at ho;have HP:=aa (ac ho hb);clear ho hb;go_wp2_with fail;go_ret;exact⟨_,rfl,fK HP.out.1 H2.out.2.size,H2.out.2.trans (HP.out.2.mono H2.out.2.size)⟩
end Go.Proofs.YtcagfamdoaoimaaGreatDoor
