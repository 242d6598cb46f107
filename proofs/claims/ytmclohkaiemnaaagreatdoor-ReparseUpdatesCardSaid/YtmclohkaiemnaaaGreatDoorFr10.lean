/- Package relex: from, as a sequence: the tokens of a text from a place on, each with the lexings ahead and behind. -/
import Derived.Test.YtmclohkaiemnaaaGreatDoorEc9
import Derived.Test.YtmclohkaiemnaaaGreatDoorRfz
import Derived.Test.YtmclohkaiemnaaaGreatDoorLa9
set_option linter.unusedVariables false
set_option linter.unusedSimpArgs false
set_option maxRecDepth 100000
set_option maxHeartbeats 8000000
namespace Go.Proofs.YtmclohkaiemnaaaGreatDoor
open Go.RowKit
section
open Go.RowKit
attribute [local go_sem] Oper.semAt_some
structure PV where
  t:Tk
  X:Lx
  v:Value
  Y:Lx
  u:Value
abbrev My (q:PV):Array Value:=#[.agg #[.int .i64 (q.t.kd:Int),.int .i64 (q.t.fr:Int),.int .i64 (q.t.to:Int),.bool q.t.op,.int .i64 q.X.aw,q.v,.bool q.X.bd],.agg #[.int .i64 q.Y.aw,q.u,.bool q.Y.bd]]
def oY (l:List UInt8) (x:Nat) (X:Lx):List ((Tk×Lx)×Lx):=(ic l x X).map fun p=>(p,(eU l p.1.fr p.2).2)
theorem sH (l:List UInt8) (x:Nat) (X:Lx):oY l x X=if x<l.length then (((eU l x X).1,X),(eU l x X).2)::oY l (eU l x X).1.to (eU l x X).2 else []:=by
  unfold oY;rw[gT];by_cases hx:x<l.length
  ·have:=(ii l x hx X).1
   rw[aB hx,aB hx,cF,this]
  ·rw[aC hx,aC hx];rfl
def CQ (xs:List PV):List ((Tk×Lx)×Lx):=xs.map fun q=>((q.t,q.X),q.Y)
def AX (l:List UInt8) (x:Nat) (X:Lx) (pre:List PV):Prop:=CQ pre<+:oY l x X
def Kv (l:List UInt8) (x:Nat) (X:Lx) (pre:List PV):Prop:=CQ pre=oY l x X
def Oa (q:PV) (W:World):Prop:=Rt W 120 2 q.v q.X.pd.length (fQ q.X.pd)∧Rt W 120 2 q.u q.Y.pd.length (fQ q.Y.pd)
abbrev zi:List TypeId:=[3,85]
abbrev uC:List TypeId:=[94,82,87,85,3]
def Hh (w:World) (B:Nat):Nat:=match w.cell? ⟨B,0,none⟩ with|some v=>(intOf v).toNat|none=>0
theorem Ms {Xs:Nat→Prop} {W3:World} {Ba Bx Bs:Nat} {y:Nat} {x:Int} {u0 u1 u2 d0 d1 d2 v:Value} {l:List UInt8} {n:Nat} {xs:List Value} (ka:Bk W3 Ba 3 #[.int .i64 x]) (kx:Bk W3 Bx 85 #[u0,u1,u2]) (kB:Bk W3 Bs 9 #[.string ⟨l.toArray⟩]) (hr:Rt W3 120 2 v n xs) (h1:Xs Ba) (h2:Xs Bx) :
    ∀W6,W6=((((W3.setCell ⟨Ba,0,none⟩ (.int .i64 (y:Int))).setCell ⟨Bx,0,none⟩ d0).setCell ⟨Bx,1,none⟩ d1).setCell ⟨Bx,2,none⟩ d2).drew →
     Bk W6 Ba 3 #[.int .i64 (y:Int)]∧Bk W6 Bx 85 #[d0,d1,d2]∧Bk W6 Bs 9 #[.string ⟨l.toArray⟩]∧Rt W6 120 2 v n xs∧XG Xs W3 W6∧KC zi W3 W6∧Hh W6 Ba=y:=by
  rintro W6 rfl;have hne:Ba≠Bx:=fun e=>by
    subst e;have h9:=(show W3.heap[Ba]? = _ from ka).symm.trans kx;injection h9 with h9
    injection h9 with _ h9
    exact absurd h9 (by decide)
  have hsa:Bs≠Ba:=fun e=>by
    subst e;have h9:=(show W3.heap[Bs]? = _ from kB).symm.trans ka;injection h9 with h9
    injection h9 with _ h9
    exact absurd h9 (by decide)
  have hsx:Bs≠Bx:=fun e=>by
    subst e;have h9:=(show W3.heap[Bs]? = _ from kB).symm.trans kx;injection h9 with h9
    injection h9 with _ h9
    exact absurd h9 (by decide)
  have k0:=ka.set 0 (.int .i64 (y:Int));have kx1:=kx.far (p:=⟨Ba,0,none⟩) hne.symm (.int .i64 (y:Int));have kB1:=kB.far (p:=⟨Ba,0,none⟩) hsa (.int .i64 (y:Int));have hr1:=hr.keep (eJ (fA W3 (some Ba)) 0 (.int .i64 (y:Int))) (ka.row (by decide));have hx1:=(XG.refl Xs W3).set (.inl h1) 0 (.int .i64 (y:Int));have hk1:=(KC.refl zi W3).set ka (by decide) 0 (.int .i64 (y:Int));generalize W3.setCell ⟨Ba,0,none⟩ (.int .i64 (y:Int))=W4 at k0 kx1 kB1 hr1 hx1 hk1 ⊢;have k2:=((k0.far (p:=⟨Bx,0,none⟩) hne d0).far (p:=⟨Bx,1,none⟩) hne d1).far (p:=⟨Bx,2,none⟩) hne d2;have kx2:=((kx1.set 0 d0).set 1 d1).set 2 d2;have kB2:=((kB1.far (p:=⟨Bx,0,none⟩) hsx d0).far (p:=⟨Bx,1,none⟩) hsx d1).far (p:=⟨Bx,2,none⟩) hsx d2;have hr2:=hr1.keep (eJ (eJ (eJ (fA W4 (some Bx)) 0 d0) 1 d1) 2 d2) (kx1.row (by decide));have hx2:=((hx1.set (.inl h2) 0 d0).set (.inl h2) 1 d1).set (.inl h2) 2 d2;have hk2:=((hk1.set kx1 (by decide) 0 d0).set (kx1.set 0 d0) (by decide) 1 d1).set ((kx1.set 0 d0).set 1 d1) (by decide) 2 d2;generalize ((W4.setCell ⟨Bx,0,none⟩ d0).setCell ⟨Bx,1,none⟩ d1).setCell ⟨Bx,2,none⟩ d2=W5 at k2 kx2 kB2 hr2 hx2 hk2 ⊢;have hb:Below W5.heap.size W5 W5.drew:=(ay _ W5).drew;have k6:Bk W5.drew Ba 3 #[.int .i64 (y:Int)]:=k2;refine⟨k6,kx2,kB2,hr2.next hb,hx2.below hb,hk2.trans (KC.of_below hb),?_⟩;unfold Hh;rw[k6.cell];simp[intOf]
theorem C8 (n l' Ba Bs Bx:Nat) (l:List UInt8) (x0:Nat) (Z0:Lx) (v0:Value) (J Jx:(Nat→Prop)→List PV→World→Prop) (hl:l.length≤900) (hx0:x0≤l.length) (hpd0:Z0.pd.length≤x0) (hab:Ba≠Bx) (hF:zm zi J)
    (hY:∀X pre q W,J X pre W→AX l x0 Z0 (pre++[q])→Oa q W→∀m,YieldAt Fence.wide m Tryz.prog l' (My q) W fun e W'=>
      (e=.returned (.bool true)∧J X (pre++[q]) W'∧KC uC W W'∧∀k,X k→W'.heap[k]? = W.heap[k]?)∨(e=.returned (.bool false)∧Jx X (pre++[q]) W'∧KC uC W W'∧∀k,X k→W'.heap[k]? = W.heap[k]?))
    (W:World) (hBs:Bk W Bs 9 #[.string ⟨l.toArray⟩]) (hBa:Bk W Ba 3 #[.int .i64 (x0:Int)]) (hBx:Bk W Bx 85 #[.int .i64 Z0.aw,v0,.bool Z0.bd]) (hr0:Rt W 120 2 v0 Z0.pd.length (fQ Z0.pd)) (h0:J (fun k=>k=Ba∨k=Bx) [] W) :
    CallsIn Fence.wide n Tryz.prog 70 #[.func (.yield l') #[] #[],.pointer (some ⟨Ba,0,none⟩),.pointer (some ⟨Bs,0,none⟩),.pointer (some ⟨Bx,0,none⟩)] W fun e W'=>(∃v,e=.returned v) ∧
      ((∃ys X,Kv l x0 Z0 ys∧J X ys W')∨(∃pre X,True∧Jx X pre W')):=by
  have HK:=ac (ae hF hY);have H0:=ac (ae hBs (ae hBa (ae hBx (ae hr0 h0))));have HX:=ac (ae hx0 (ae hpd0 hab));clear hF hY hBs hBa hBx hr0 h0 hx0 hpd0 hab;refine callsIn_of_wp Tryz.func70 rfl trivial ?_ rfl;simp only[Tryz.ntmps70,cJ,aL,cg,Nat.reduceAdd,Nat.reduceSub,cy,cz,cO,cH,cK,bH];gi_wp2_with fail
  gi_loopw [5,6] (fun _ _ wr=>∃(x:Nat) (pre:List PV) (X:Lx) (v:Value) (Xs:Nat→Prop),x≤l.length∧CQ pre++oY l x X=oY l x0 Z0∧X.pd.length≤x∧J Xs pre wr∧Xs Ba∧Xs Bx ∧
      Bk wr Ba 3 #[.int .i64 (x:Int)]∧Bk wr Bx 85 #[.int .i64 X.aw,v,.bool X.bd]∧Rt wr 120 2 v X.pd.length (fQ X.pd)∧Bk wr Bs 9 #[.string ⟨l.toArray⟩]) (fun _ _ wr=>l.length-Hh wr Ba)
  case atStart=>
    exact⟨x0,[],Z0,v0,_,HX.out.1,rfl,HX.out.2.1,H0.out.2.2.2.2,.inl rfl,.inr rfl,H0.out.2.1,H0.out.2.2.1,H0.out.2.2.2.1,H0.out.1⟩
  case round=>
    obtain⟨x,pre,X,v,Xs,hx,hpr,hpd,hJ,hXa,hXx,ka,kx,hr,kB⟩:=hrel;obtain⟨A,cp,rfl⟩:=hr.form;have y0:wr.cell? ⟨Bs,0,none⟩=some (.string ⟨l.toArray⟩):=by rw[kB.cell];rfl
    have a0:wr.cell? ⟨Ba,0,none⟩=some (.int .i64 (x:Int)):=by rw[ka.cell];rfl
    have a1:=ka.frozen 0;obtain⟨p0,p1,p2,p3,p4,p5⟩:=kx.three;have hBa:=ka.lt;have hBx:=kx.lt;have hBs:=kB.lt;have hat:Hh wr Ba=x:=by unfold Hh;rw[a0];simp[intOf]
    by_cases hxl:x<l.length
    ·have u1:(x:Int)<(l.length:Int):=by omega
     have hpd2:X.pd.length≤10000:=by omega
     have HR:=ac (ae hpr (ae hpd (ae hJ (ae hXa (ae hXx (ae ka (ae kx (ae hr kB))))))));obtain⟨S,hS⟩:∃S,S=eU l x X:=⟨_,rfl⟩;have hstep:Calls Tryz.prog 71 #[.string ⟨l.toArray⟩,.int .i64 (x:Int),.agg #[.int .i64 X.aw,.slice A X.pd.length cp,.bool X.bd]] wr fun e w'=>∃v,e=.returned (.tuple #[sw S.1,v])∧Ia w' S.2 v∧Below wr.heap.size wr w':=by
       rw[hS];exact IB l x X A _ cp wr hl hxl rfl hr hpd2
     have HS:=ac (ae hS hstep);have HA:=ac hat;clear hpr hpd hJ hXa hXx ka kx hr kB hS hstep hat;obtain⟨wo,rfl⟩:∃wo:World,wo=wr:=⟨_,rfl⟩;gi_wp2_with fail;rename_i K1 hK1 K0 hK0;have HKK:=ac hK0;have HK1:=ac hK1;clear hK0 hK1;refine⟨trivial,fun h=>by simp[Fence.wide] at h,?_⟩;refine(aX.2 HS.out.2).mono ?_;rintro e w2 ⟨v2,rfl,⟨v1,rfl,hr2⟩,hb2⟩;obtain⟨A1,c1,rfl⟩:=hr2.form;unfold sw oS;have ka:=HR.out.2.2.2.2.2.1.below hb2 hBa;have kx:=HR.out.2.2.2.2.2.2.1.below hb2 hBx;have kB:=HR.out.2.2.2.2.2.2.2.2.below hb2 hBs;have hr:=HR.out.2.2.2.2.2.2.2.1.next hb2;have a0:w2.cell? ⟨Ba,0,none⟩=some (.int .i64 (x:Int)):=by rw[ka.cell];rfl
     obtain⟨p0,p1,p2,p3,p4,p5⟩:=kx.three;have hBa2:=ka.lt;have hBx2:=kx.lt;have hBx3:Bx<w2.heap.size+1:=by omega
     have H2:=ac (ae hr2 (ae hb2 (ae ka (ae kx (ae kB hr)))));clear hr2 hb2 ka kx kB hr;gi_wp2_with fail;refine HKK.out _ _ ?_;gi_wp2_with fail;have hS:=HS.out.1;have mb:Below wo.heap.size wo ((w2.alloc (.cells #[.int .i64 (S.1.kd:Int),.int .i64 (S.1.fr:Int),.int .i64 (S.1.to:Int),.bool S.1.op] 92)).alloc (.cells #[.int .i64 S.2.aw,.slice A1 S.2.pd.length c1,.bool S.2.bd] 85)):=(H2.out.2.1.alloc H2.out.2.1.size _).alloc (by have:=H2.out.2.1.size;simp;omega) _;have mB:Below w2.heap.size w2 ((w2.alloc (.cells #[.int .i64 (S.1.kd:Int),.int .i64 (S.1.fr:Int),.int .i64 (S.1.to:Int),.bool S.1.op] 92)).alloc (.cells #[.int .i64 S.2.aw,.slice A1 S.2.pd.length c1,.bool S.2.bd] 85)):=((ay _ _).alloc (au _) _).alloc (by simp) _;have m1:Bk ((w2.alloc (.cells #[.int .i64 (S.1.kd:Int),.int .i64 (S.1.fr:Int),.int .i64 (S.1.to:Int),.bool S.1.op] 92)).alloc (.cells #[.int .i64 S.2.aw,.slice A1 S.2.pd.length c1,.bool S.2.bd] 85)) w2.heap.size 92 #[.int .i64 (S.1.kd:Int),.int .i64 (S.1.fr:Int),.int .i64 (S.1.to:Int),.bool S.1.op]:=(Bk.new w2 _ _).alloc _;have m2:=fB w2 #[.int .i64 (S.1.kd:Int),.int .i64 (S.1.fr:Int),.int .i64 (S.1.to:Int),.bool S.1.op] #[.int .i64 S.2.aw,.slice A1 S.2.pd.length c1,.bool S.2.bd] 92 85;have hws:wo.heap.size≤w2.heap.size:=H2.out.2.1.size;have m3:((w2.alloc (.cells #[.int .i64 (S.1.kd:Int),.int .i64 (S.1.fr:Int),.int .i64 (S.1.to:Int),.bool S.1.op] 92)).alloc (.cells #[.int .i64 S.2.aw,.slice A1 S.2.pd.length c1,.bool S.2.bd] 85)).heap.size=w2.heap.size+2:=by simp
     generalize World.alloc _ _=W5 at mb mB m1 m2 m3 ⊢;have ka:=H2.out.2.2.1.below mB hBa2;have kx:=H2.out.2.2.2.1.below mB hBx2;have kB:=H2.out.2.2.2.2.1.below mB H2.out.2.2.2.2.1.lt;have hr:=H2.out.2.2.2.2.2.next mB;have hr2:=H2.out.1.next mB;have mJ:=HK.out.1 _ _ _ _ HR.out.2.2.1 (XG.of_below mb) (KC.of_below mb);have hpa:CQ pre++((S.1,X),S.2)::oY l S.1.to S.2=oY l x0 Z0:=by
       rw[hS,←HR.out.1,sH l x X,aB hxl]
     obtain⟨fn,tmps,assign,body,hy,hR⟩:=HK.out.2 _ pre ⟨S.1,X,.slice A X.pd.length cp,S.2,.slice A1 S.2.pd.length c1⟩ W5 mJ (by
       unfold AX;rw[←hpa];exact⟨oY l S.1.to S.2,by simp[CQ]⟩) ⟨hr,hr2⟩ (n-1)
     have hR2:=ac hR;clear hR;simp only[My] at hy;have hy2:=ac hy;clear hy;have hto:=ii l x hxl X;have hpdS:S.2.pd.length≤S.1.to:=by
       have:=Bq l x X
       rw[←hS] at this hto
       have:=HR.out.2.1
       omega
     rw[←hS] at hto;have a0:W5.cell? ⟨Ba,0,none⟩=some (.int .i64 (x:Int)):=by rw[ka.cell];rfl
     obtain⟨p0,p1,p2,p3,p4,p5⟩:=kx.three;obtain⟨q0,q1,q2,q3,_⟩:=m1.four;obtain⟨r0,r1,r2,_⟩:=m2.three;have hn1:jH Xs wo W5 w2.heap.size:=.inr ⟨hws,by omega⟩;have hn2:jH Xs wo W5 (w2.heap.size+1):=.inr ⟨by omega,by omega⟩;have H5:=ac (ae m1 (ae m2 (ae ka (ae kx (ae kB (ae hr2 (ae hn1 hn2)))))));clear m1 m2 mJ ka kx kB hr hr2 mb mB hn1 hn2;have HP:=ac (ae hpa (ae hto hpdS));clear hS hpa hpdS hto;refine HK1.out _ _ ?_;gi_wp2_with fail;rw[hy2.out];gi_wp2_with fail;refine⟨fun h=>by simp[Fence.wide] at h,?_⟩;refine hR2.out.mono ?_;rintro e W3 (⟨rfl,hJ3,hk3,hx3⟩|⟨rfl,hJx3,hk3,hx3⟩)
     ·have k1:Bk W3 w2.heap.size _ _:=(hx3 _ H5.out.2.2.2.2.2.2.1).trans H5.out.1;have k2:Bk W3 (w2.heap.size+1) _ _:=(hx3 _ H5.out.2.2.2.2.2.2.2).trans H5.out.2.1;have ka:Bk W3 Ba _ _:=(hx3 _ (.inl HR.out.2.2.2.1)).trans H5.out.2.2.1;have kx:Bk W3 Bx _ _:=(hx3 _ (.inl HR.out.2.2.2.2.1)).trans H5.out.2.2.2.1;have kr:=H5.out.2.2.2.2.2.1.kc hk3 (by decide);have kB:Bk W3 Bs _ _:=hk3.same _ _ _ _ H5.out.2.2.2.2.1 (by decide);have a0:W3.cell? ⟨Ba,0,none⟩=some (.int .i64 (x:Int)):=by rw[ka.cell];rfl
      have a1:=ka.frozen 0;obtain⟨p0,p1,p2,p3,p4,p5⟩:=kx.three;obtain⟨q0,q1,q2,q3,_⟩:=k1.four;obtain⟨r0,r1,r2,_⟩:=k2.three;have H3:=ac (ae hJ3 (ae ka (ae kx (ae kr kB))));clear hJ3 hk3 hx3 k1 k2 kr kB ka kx;have n1:¬w2.heap.size=Ba:=by omega
      have n2:¬w2.heap.size+1=Ba:=by omega
      have n3:¬Ba=w2.heap.size:=by omega
      have n4:¬Ba=w2.heap.size+1:=by omega
      have n5:¬Ba=Bx:=HX.out.2.2;have n6:¬Bx=Ba:=fun e=>HX.out.2.2 e.symm
      gi_wp2_with fail;gi_region_with (fail);all_goals (
        gi_wp2_with fail;obtain⟨m1,m2,m3',m4,m5,m6,m7⟩:=Ms (Xs:=jH Xs wo W5) (y:=S.1.to) (d0:=.int .i64 S.2.aw) (d1:=.slice A1 S.2.pd.length c1) (d2:=.bool S.2.bd) H3.out.2.1 H3.out.2.2.1 H3.out.2.2.2.2 H3.out.2.2.2.1 (.inl HR.out.2.2.2.1) (.inl HR.out.2.2.2.2.1) _ rfl;have ht:=HP.out.2.1;refine⟨⟨S.1.to,_,S.2,_,_,ht.2.2.1,?_,HP.out.2.2,HK.out.1 _ _ _ _ H3.out.1 m5 m6,.inl (.inl HR.out.2.2.2.1),.inl (.inl HR.out.2.2.2.2.1),m1,m2,m4,m3'⟩,?_⟩
        ·rw[←HP.out.1];simp[CQ]
        ·rw[m7,HA.out];omega)
     ·have H3:=ac hJx3;clear hJx3 hk3 hx3;gi_wp2;refine bn ?_;exact⟨⟨_,rfl⟩,.inr ⟨_,_,trivial,H3.out⟩⟩
    ·have HR:=ac (ae hpr hJ);have u1:¬(x:Int)<(l.length:Int):=by omega
     clear hpr hpd hJ hXa hXx ka kx hr kB;gi_wp2;go_end0;refine⟨⟨_,rfl⟩,.inl ⟨pre,?_,Xs,HR.out.2⟩⟩
     have:=HR.out.1
     rw[sH,aC hxl,bB] at this;exact this
theorem tU (l:List UInt8) (x0:Nat) (Z0:Lx) (A:Option Addr) (n c:Nat) (w:World) :
    Calls Tryz.prog 48 #[.string ⟨l.toArray⟩,.int .i64 (x0:Int),.agg #[.int .i64 Z0.aw,.slice A n c,.bool Z0.bd]] w fun e w'=>e=.returned (.func (.func 70) #[] #[.pointer (some ⟨w.heap.size+1,0,none⟩),.pointer (some ⟨w.heap.size,0,none⟩),.pointer (some ⟨w.heap.size+1+1,0,none⟩)]) ∧
      w'=((w.alloc (.cells #[.string ⟨l.toArray⟩] 9)).alloc (.cells #[.int .i64 (x0:Int)] 3)).alloc (.cells #[.int .i64 Z0.aw,.slice A n c,.bool Z0.bd] 85):=by
  go_enter Tryz.func48,Tryz.ntmps48;go_wp2;go_ret;exact⟨rfl,rfl⟩
theorem yL (Ba Bs Bx:Nat) (l:List UInt8) (x0:Nat) (Z0:Lx) (v0:Value) (w:World) (hl:l.length≤900) (hx0:x0≤l.length) (hpd0:Z0.pd.length≤x0) (hBs:Bk w Bs 9 #[.string ⟨l.toArray⟩]) (hBa:Bk w Ba 3 #[.int .i64 (x0:Int)]) (hBx:Bk w Bx 85 #[.int .i64 Z0.aw,v0,.bool Z0.bd]) (hr0:Rt w 120 2 v0 Z0.pd.length (fQ Z0.pd)) (hab:Ba≠Bx) :
    N0 (fun k=>k=Ba∨k=Bx) zi Tryz.prog 70 #[.pointer (some ⟨Ba,0,none⟩),.pointer (some ⟨Bs,0,none⟩),.pointer (some ⟨Bx,0,none⟩)] My (KC uC) (Kv l x0 Z0) (fun _=>True) (AX l x0 Z0) Oa w:=fun n l' J Jx W hW hF hFx hY h0=>
  C8 n l' Ba Bs Bx l x0 Z0 v0 J Jx hl hx0 hpd0 hab hF hY W (hBs.below hW hBs.lt) (hBa.below hW hBa.lt) (hBx.below hW hBx.lt) (hr0.next hW) h0
abbrev uq (q:PV):List Value:=[.int .i64 (q.t.kd:Int),.int .i64 (q.t.fr:Int),.int .i64 (q.t.to:Int),.bool q.t.op,.int .i64 q.X.aw,q.v,.bool q.X.bd]
def iB (xs:List PV):List Value:=xs.flatMap uq
theorem lJ (a b:List PV):iB (a++b)=iB a++iB b:=by simp[iB]
theorem kq (q:PV):(uq q).length=7:=rfl
def jM (xs:List PV):List (Tk×Lx):=xs.map fun q=>(q.t,q.X)
theorem KQ (xs:List PV):jM xs=(CQ xs).map Prod.fst:=by simp[jM,CQ]
theorem vH (l:List UInt8) (x:Nat) (X:Lx):(oY l x X).map Prod.fst=ic l x X:=by unfold oY;rw[dA];exact List.map_id _
def mq (Z0:Lx) (pre:List PV):Lx:=pre.foldl (fun _ q=>q.Y) Z0
theorem pB (Z0:Lx) (pre:List PV) (q:PV):mq Z0 (pre++[q])=q.Y:=by unfold mq;rw[List.foldl_append];rfl
theorem DN (l:List UInt8):∀(x:Nat) (X:Lx),((oY l x X).foldl (fun _ q=>q.2) X)=(nL l x X).2:=
  pU l (fun x X h=>by rw[sH,jC,aC h,aC h];rfl) (fun x X h ih=>by
    rw[sH,jC,aB h,aB h,List.foldl_cons];exact ih)
theorem JI (Z0:Lx):∀(pre:List PV),mq Z0 pre=(CQ pre).foldl (fun _ q=>q.2) Z0:=fun pre=>by
  unfold mq CQ;rw[List.foldl_map]
theorem xw {l:List UInt8} {x:Nat} {X:Lx} {ys:List PV} (h:Kv l x X ys):jM ys=ic l x X∧mq X ys=(nL l x X).2:=by
  unfold Kv at h;exact⟨by rw[KQ,h,vH],by rw[JI,h,DN]⟩
theorem sI (l:List UInt8):∀x X,(ic l x X).length≤l.length-x:=
  pU l (fun x X h=>by rw[gT,aC h];simp) (fun x X h ih=>by
    have:=ii l x h X
    rw[gT,aB h,aL];omega)
theorem AX.len {l:List UInt8} {x:Nat} {X:Lx} {pre:List PV} (h:AX l x X pre):pre.length≤l.length:=by
  have h1:=h.length_le;have h2:=sI l x X;have h3:(CQ pre).length=pre.length:=by simp[CQ]
  have h4:(oY l x X).length=(ic l x X).length:=by simp[oY]
  omega
end
theorem Tryz.infoPlace:(Tryz.prog.info? 94).map (fun i=>(i.zero,i.size,i.bytes))=some (some (.agg #[.int .i64 0,.int .i64 0,.int .i64 0,.bool false,.int .i64 0,.slice none 0 0,.bool false]),7,72):=by kernel_rfl
theorem E6 {X:Nat→Prop} {A B:World} {N e sz n:Nat} {v:Value} {xs:List Value} (h:A.ownsRow N e sz v n xs) (hx:XG X A B) (hn:∀k,v.ownBlock=some k→¬X k):B.ownsRow N e sz v n xs:=by
  refine⟨h.1,?_⟩;rcases h.2 with h|⟨g,cap,cur,he,hg,hh,r⟩
  ·exact .inl h
  ·exact .inr ⟨g,cap,cur,he,hg,(hx.block g (aJ.1 hh).1 (hn g (by rw[he];rfl))).trans hh,r⟩
structure qP (w:World) (g:Nat) (l:List UInt8) (X:Lx) (xs:List PV) (lv pv:Value):Prop where
  bk:Bk w g 87 #[.string ⟨l.toArray⟩,lv,.int .i64 X.aw,pv,.bool X.bd]
  ps:∀q∈xs,Rt w 120 2 q.v q.X.pd.length (fQ q.X.pd)
  pv:Rt w 120 2 pv X.pd.length (fQ X.pd)
theorem qP.kc {T:List TypeId} {w w':World} {g:Nat} {l:List UInt8} {X:Lx} {xs:List PV} {lv pv:Value} (h:qP w g l X xs lv pv) (hk:KC T w w') (hb:w'.heap[g]? = w.heap[g]?) (hd:120∉T):qP w' g l X xs lv pv:=
  ⟨hb.trans h.bk,fun q hq=>(h.ps q hq).kc hk hd,h.pv.kc hk hd⟩
def rU (w:World) (g:Nat) (l:List UInt8):Prop:=∃(xs:List PV) (lv pv:Value),jM xs=gI l∧qP w g l (jf l).2 xs lv pv∧Rt w 94 7 lv xs.length (iB xs)
end Go.Proofs.YtmclohkaiemnaaaGreatDoor
