/- Package relex: from, as a sequence: the tokens of a text from a place on, each with the lexings ahead and behind. -/
import Derived.Test.YtfagdpfgifgnoaaGreatDoorEc9
import Derived.Test.YtfagdpfgifgnoaaGreatDoorRfz
import Derived.Test.YtfagdpfgifgnoaaGreatDoorLa9
set_option linter.unusedVariables false
set_option linter.unusedSimpArgs false
set_option maxRecDepth 100000
set_option maxHeartbeats 8000000
namespace Go.Proofs.YtfagdpfgifgnoaaGreatDoor
open Go.RowKit
section
open Go.RowKit
attribute [local go_sem] Oper.semAt_some
structure PV where
  t:Tk
  X:Lx
  v:Value
  Y:Lx
  u:Value
abbrev El (q:PV):Array Value:=#[.agg #[.int .i64 (q.t.kd:Int),.int .i64 (q.t.fr:Int),.int .i64 (q.t.to:Int),.bool q.t.op,.int .i64 q.X.aw,q.v,.bool q.X.bd],.agg #[.int .i64 q.Y.aw,q.u,.bool q.Y.bd]]
def jK (l:List UInt8) (x:Nat) (X:Lx):List ((Tk×Lx)×Lx):=(cN l x X).map fun p=>(p,(aC l p.1.fr p.2).2)
theorem mG (l:List UInt8) (x:Nat) (X:Lx):jK l x X=if x<l.length then (((aC l x X).1,X),(aC l x X).2)::jK l (aC l x X).1.to (aC l x X).2 else []:=by
  unfold jK;rw[cx];by_cases hx:x<l.length
  ·have:=(cL l x hx X).1
   rw[if_pos hx,if_pos hx,List.map_cons,this]
  ·rw[if_neg hx,if_neg hx];rfl
def wB (xs:List PV):List ((Tk×Lx)×Lx):=xs.map fun q=>((q.t,q.X),q.Y)
def ww (l:List UInt8) (x:Nat) (X:Lx) (pre:List PV):Prop:=wB pre<+:jK l x X
def CP (l:List UInt8) (x:Nat) (X:Lx) (pre:List PV):Prop:=wB pre=jK l x X
def FJ (q:PV) (W:World):Prop:=Rt W 134 2 q.v q.X.pd.length (bK q.X.pd)∧Rt W 134 2 q.u q.Y.pd.length (bK q.Y.pd)
abbrev uc:List TypeId:=[3,88]
abbrev Aj:List TypeId:=[96,85,90,88,3]
def zY (w:World) (B:Nat):Nat:=match w.cell? ⟨B,0,none⟩ with|some v=>(intOf v).toNat|none=>0
theorem Ei {Xs:Nat→Prop} {W3:World} {Ba Bx Bs:Nat} {y:Nat} {x:Int} {u0 u1 u2 d0 d1 d2 v:Value} {l:List UInt8} {n:Nat} {xs:List Value} (ka:Bk W3 Ba 3 #[.int .i64 x]) (kx:Bk W3 Bx 88 #[u0,u1,u2]) (kB:Bk W3 Bs 9 #[.string ⟨l.toArray⟩]) (hr:Rt W3 134 2 v n xs) (h1:Xs Ba) (h2:Xs Bx) :
    ∀W6,W6=((((W3.setCell ⟨Ba,0,none⟩ (.int .i64 (y:Int))).setCell ⟨Bx,0,none⟩ d0).setCell ⟨Bx,1,none⟩ d1).setCell ⟨Bx,2,none⟩ d2).drew →
     Bk W6 Ba 3 #[.int .i64 (y:Int)]∧Bk W6 Bx 88 #[d0,d1,d2]∧Bk W6 Bs 9 #[.string ⟨l.toArray⟩]∧Rt W6 134 2 v n xs∧XG Xs W3 W6∧KC uc W3 W6∧zY W6 Ba=y:=by
  rintro W6 rfl;have hne:Ba≠Bx:=fun e=>by
    subst e;have h9:=(show W3.heap[Ba]? = _ from ka).symm.trans kx;injection h9 with h9
    injection h9 with _ h9
    exact absurd h9 (by decide)
  have hsa:Bs≠Ba:=fun e=>by
    subst e;have h9:=(show W3.heap[Bs]? = _ from kB).symm.trans ka;injection h9 with h9
    injection h9 with _ h9
    exact absurd h9 (by decide)
  have hsx:Bs≠Bx:=fun e=>by
    subst e;have h9:=(show W3.heap[Bs]? = _ from kB).symm.trans kx;injection h9 with h9
    injection h9 with _ h9
    exact absurd h9 (by decide)
  have k0:=ka.set 0 (.int .i64 (y:Int));have kx1:=kx.far (p:=⟨Ba,0,none⟩) hne.symm (.int .i64 (y:Int));have kB1:=kB.far (p:=⟨Ba,0,none⟩) hsa (.int .i64 (y:Int));have hr1:=hr.keep (aK (bT W3 (some Ba)) 0 (.int .i64 (y:Int))) (ka.row (by decide));have hx1:=(XG.refl Xs W3).set (.inl h1) 0 (.int .i64 (y:Int));have hk1:=(KC.refl uc W3).set ka (by decide) 0 (.int .i64 (y:Int));generalize W3.setCell ⟨Ba,0,none⟩ (.int .i64 (y:Int))=W4 at k0 kx1 kB1 hr1 hx1 hk1 ⊢;have k2:=((k0.far (p:=⟨Bx,0,none⟩) hne d0).far (p:=⟨Bx,1,none⟩) hne d1).far (p:=⟨Bx,2,none⟩) hne d2;have kx2:=((kx1.set 0 d0).set 1 d1).set 2 d2;have kB2:=((kB1.far (p:=⟨Bx,0,none⟩) hsx d0).far (p:=⟨Bx,1,none⟩) hsx d1).far (p:=⟨Bx,2,none⟩) hsx d2;have hr2:=hr1.keep (aK (aK (aK (bT W4 (some Bx)) 0 d0) 1 d1) 2 d2) (kx1.row (by decide));have hx2:=((hx1.set (.inl h2) 0 d0).set (.inl h2) 1 d1).set (.inl h2) 2 d2;have hk2:=((hk1.set kx1 (by decide) 0 d0).set (kx1.set 0 d0) (by decide) 1 d1).set ((kx1.set 0 d0).set 1 d1) (by decide) 2 d2;generalize ((W4.setCell ⟨Bx,0,none⟩ d0).setCell ⟨Bx,1,none⟩ d1).setCell ⟨Bx,2,none⟩ d2=W5 at k2 kx2 kB2 hr2 hx2 hk2 ⊢;have hb:Below W5.heap.size W5 W5.drew:=(Below.refl _ W5).drew;have k6:Bk W5.drew Ba 3 #[.int .i64 (y:Int)]:=k2;refine⟨k6,kx2,kB2,hr2.next hb,hx2.below hb,hk2.trans (KC.of_below hb),?_⟩;unfold zY;rw[k6.cell];simp[intOf]
theorem vR (n l' Ba Bs Bx:Nat) (l:List UInt8) (x0:Nat) (Z0:Lx) (v0:Value) (J Jx:(Nat→Prop)→List PV→World→Prop) (hl:l.length≤900) (hx0:x0≤l.length) (hpd0:Z0.pd.length≤x0) (hab:Ba≠Bx) (hF:sD uc J)
    (hY:∀X pre q W,J X pre W→ww l x0 Z0 (pre++[q])→FJ q W→∀m,YieldAt Fence.wide m Tryz.prog l' (El q) W fun e W'=>
      (e=.returned (.bool true)∧J X (pre++[q]) W'∧KC Aj W W'∧∀k,X k→W'.heap[k]? = W.heap[k]?)∨(e=.returned (.bool false)∧Jx X (pre++[q]) W'∧KC Aj W W'∧∀k,X k→W'.heap[k]? = W.heap[k]?))
    (W:World) (hBs:Bk W Bs 9 #[.string ⟨l.toArray⟩]) (hBa:Bk W Ba 3 #[.int .i64 (x0:Int)]) (hBx:Bk W Bx 88 #[.int .i64 Z0.aw,v0,.bool Z0.bd]) (hr0:Rt W 134 2 v0 Z0.pd.length (bK Z0.pd)) (h0:J (fun k=>k=Ba∨k=Bx) [] W) :
    CallsIn Fence.wide n Tryz.prog 84 #[.func (.yield l') #[] #[],.pointer (some ⟨Ba,0,none⟩),.pointer (some ⟨Bs,0,none⟩),.pointer (some ⟨Bx,0,none⟩)] W fun e W'=>(∃v,e=.returned v) ∧
      ((∃ys X,CP l x0 Z0 ys∧J X ys W')∨(∃pre X,True∧Jx X pre W')):=by
  have HK:=Lib.hid (And.intro hF hY);have H0:=Lib.hid (And.intro hBs (And.intro hBa (And.intro hBx (And.intro hr0 h0))));have HX:=Lib.hid (And.intro hx0 (And.intro hpd0 hab));clear hF hY hBs hBa hBx hr0 h0 hx0 hpd0 hab;refine callsIn_of_wp Tryz.func84 rfl trivial ?_ rfl;simp only[Tryz.ntmps84,List.size_toArray,List.length_cons,List.length_nil,Nat.reduceAdd,Nat.reduceSub,Array.replicate_succ,Array.replicate_zero,List.push_toArray,List.append_toArray,List.nil_append,List.cons_append];gi_wp2_with fail
  gi_loopw [5,6] (fun _ _ wr=>∃(x:Nat) (pre:List PV) (X:Lx) (v:Value) (Xs:Nat→Prop),x≤l.length∧wB pre++jK l x X=jK l x0 Z0∧X.pd.length≤x∧J Xs pre wr∧Xs Ba∧Xs Bx ∧
      Bk wr Ba 3 #[.int .i64 (x:Int)]∧Bk wr Bx 88 #[.int .i64 X.aw,v,.bool X.bd]∧Rt wr 134 2 v X.pd.length (bK X.pd)∧Bk wr Bs 9 #[.string ⟨l.toArray⟩]) (fun _ _ wr=>l.length-zY wr Ba)
  case atStart=>
    exact⟨x0,[],Z0,v0,_,HX.out.1,rfl,HX.out.2.1,H0.out.2.2.2.2,.inl rfl,.inr rfl,H0.out.2.1,H0.out.2.2.1,H0.out.2.2.2.1,H0.out.1⟩
  case round=>
    obtain⟨x,pre,X,v,Xs,hx,hpr,hpd,hJ,hXa,hXx,ka,kx,hr,kB⟩:=hrel;obtain⟨A,cp,rfl⟩:=hr.form;have y0:wr.cell? ⟨Bs,0,none⟩=some (.string ⟨l.toArray⟩):=by rw[kB.cell];rfl
    have a0:wr.cell? ⟨Ba,0,none⟩=some (.int .i64 (x:Int)):=by rw[ka.cell];rfl
    have a1:=ka.frozen 0;obtain⟨p0,p1,p2,p3,p4,p5⟩:=kx.three;have hBa:=ka.lt;have hBx:=kx.lt;have hBs:=kB.lt;have hat:zY wr Ba=x:=by unfold zY;rw[a0];simp[intOf]
    by_cases hxl:x<l.length
    ·have u1:(x:Int)<(l.length:Int):=by omega
     have hpd2:X.pd.length≤10000:=by omega
     have HR:=Lib.hid (And.intro hpr (And.intro hpd (And.intro hJ (And.intro hXa (And.intro hXx (And.intro ka (And.intro kx (And.intro hr kB))))))));obtain⟨S,hS⟩:∃S,S=aC l x X:=⟨_,rfl⟩;have hstep:Calls Tryz.prog 85 #[.string ⟨l.toArray⟩,.int .i64 (x:Int),.agg #[.int .i64 X.aw,.slice A X.pd.length cp,.bool X.bd]] wr fun e w'=>∃v,e=.returned (.tuple #[ms S.1,v])∧Ap w' S.2 v∧Below wr.heap.size wr w':=by
       rw[hS];exact AM l x X A _ cp wr hl hxl rfl hr hpd2
     have HS:=Lib.hid (And.intro hS hstep);have HA:=Lib.hid hat;clear hpr hpd hJ hXa hXx ka kx hr kB hS hstep hat;obtain⟨wo,rfl⟩:∃wo:World,wo=wr:=⟨_,rfl⟩;gi_wp2_with fail;rename_i K1 hK1 K0 hK0;have HKK:=Lib.hid hK0;have HK1:=Lib.hid hK1;clear hK0 hK1;refine⟨trivial,fun h=>by simp[Fence.wide] at h,?_⟩;refine(callsIn_wide.2 HS.out.2).mono ?_;rintro e w2 ⟨v2,rfl,⟨v1,rfl,hr2⟩,hb2⟩;obtain⟨A1,c1,rfl⟩:=hr2.form;unfold ms jB;have ka:=HR.out.2.2.2.2.2.1.below hb2 hBa;have kx:=HR.out.2.2.2.2.2.2.1.below hb2 hBx;have kB:=HR.out.2.2.2.2.2.2.2.2.below hb2 hBs;have hr:=HR.out.2.2.2.2.2.2.2.1.next hb2;have a0:w2.cell? ⟨Ba,0,none⟩=some (.int .i64 (x:Int)):=by rw[ka.cell];rfl
     obtain⟨p0,p1,p2,p3,p4,p5⟩:=kx.three;have hBa2:=ka.lt;have hBx2:=kx.lt;have hBx3:Bx<w2.heap.size+1:=by omega
     have H2:=Lib.hid (And.intro hr2 (And.intro hb2 (And.intro ka (And.intro kx (And.intro kB hr)))));clear hr2 hb2 ka kx kB hr;gi_wp2_with fail;refine HKK.out _ _ ?_;gi_wp2_with fail;have hS:=HS.out.1;have mb:Below wo.heap.size wo ((w2.alloc (.cells #[.int .i64 (S.1.kd:Int),.int .i64 (S.1.fr:Int),.int .i64 (S.1.to:Int),.bool S.1.op] 94)).alloc (.cells #[.int .i64 S.2.aw,.slice A1 S.2.pd.length c1,.bool S.2.bd] 88)):=(H2.out.2.1.alloc H2.out.2.1.size _).alloc (by have:=H2.out.2.1.size;simp;omega) _;have mB:Below w2.heap.size w2 ((w2.alloc (.cells #[.int .i64 (S.1.kd:Int),.int .i64 (S.1.fr:Int),.int .i64 (S.1.to:Int),.bool S.1.op] 94)).alloc (.cells #[.int .i64 S.2.aw,.slice A1 S.2.pd.length c1,.bool S.2.bd] 88)):=((Below.refl _ _).alloc (Nat.le_refl _) _).alloc (by simp) _;have m1:Bk ((w2.alloc (.cells #[.int .i64 (S.1.kd:Int),.int .i64 (S.1.fr:Int),.int .i64 (S.1.to:Int),.bool S.1.op] 94)).alloc (.cells #[.int .i64 S.2.aw,.slice A1 S.2.pd.length c1,.bool S.2.bd] 88)) w2.heap.size 94 #[.int .i64 (S.1.kd:Int),.int .i64 (S.1.fr:Int),.int .i64 (S.1.to:Int),.bool S.1.op]:=(Bk.new w2 _ _).alloc _;have m2:=aW w2 #[.int .i64 (S.1.kd:Int),.int .i64 (S.1.fr:Int),.int .i64 (S.1.to:Int),.bool S.1.op] #[.int .i64 S.2.aw,.slice A1 S.2.pd.length c1,.bool S.2.bd] 94 88;have hws:wo.heap.size≤w2.heap.size:=H2.out.2.1.size;have m3:((w2.alloc (.cells #[.int .i64 (S.1.kd:Int),.int .i64 (S.1.fr:Int),.int .i64 (S.1.to:Int),.bool S.1.op] 94)).alloc (.cells #[.int .i64 S.2.aw,.slice A1 S.2.pd.length c1,.bool S.2.bd] 88)).heap.size=w2.heap.size+2:=by simp
     generalize World.alloc _ _=W5 at mb mB m1 m2 m3 ⊢;have ka:=H2.out.2.2.1.below mB hBa2;have kx:=H2.out.2.2.2.1.below mB hBx2;have kB:=H2.out.2.2.2.2.1.below mB H2.out.2.2.2.2.1.lt;have hr:=H2.out.2.2.2.2.2.next mB;have hr2:=H2.out.1.next mB;have mJ:=HK.out.1 _ _ _ _ HR.out.2.2.1 (XG.of_below mb) (KC.of_below mb);have hpa:wB pre++((S.1,X),S.2)::jK l S.1.to S.2=jK l x0 Z0:=by
       rw[hS,←HR.out.1,mG l x X,if_pos hxl]
     obtain⟨fn,tmps,assign,body,hy,hR⟩:=HK.out.2 _ pre ⟨S.1,X,.slice A X.pd.length cp,S.2,.slice A1 S.2.pd.length c1⟩ W5 mJ (by
       unfold ww;rw[←hpa];exact⟨jK l S.1.to S.2,by simp[wB]⟩) ⟨hr,hr2⟩ (n-1)
     have hR2:=Lib.hid hR;clear hR;simp only[El] at hy;have hy2:=Lib.hid hy;clear hy;have hto:=cL l x hxl X;have hpdS:S.2.pd.length≤S.1.to:=by
       have:=uv l x X
       rw[←hS] at this hto
       have:=HR.out.2.1
       omega
     rw[←hS] at hto;have a0:W5.cell? ⟨Ba,0,none⟩=some (.int .i64 (x:Int)):=by rw[ka.cell];rfl
     obtain⟨p0,p1,p2,p3,p4,p5⟩:=kx.three;obtain⟨q0,q1,q2,q3,_⟩:=m1.four;obtain⟨r0,r1,r2,_⟩:=m2.three;have hn1:eH Xs wo W5 w2.heap.size:=.inr ⟨hws,by omega⟩;have hn2:eH Xs wo W5 (w2.heap.size+1):=.inr ⟨by omega,by omega⟩;have H5:=Lib.hid (And.intro m1 (And.intro m2 (And.intro ka (And.intro kx (And.intro kB (And.intro hr2 (And.intro hn1 hn2)))))));clear m1 m2 mJ ka kx kB hr hr2 mb mB hn1 hn2;have HP:=Lib.hid (And.intro hpa (And.intro hto hpdS));clear hS hpa hpdS hto;refine HK1.out _ _ ?_;gi_wp2_with fail;rw[hy2.out];gi_wp2_with fail;refine⟨fun h=>by simp[Fence.wide] at h,?_⟩;refine hR2.out.mono ?_;rintro e W3 (⟨rfl,hJ3,hk3,hx3⟩|⟨rfl,hJx3,hk3,hx3⟩)
     ·have k1:Bk W3 w2.heap.size _ _:=(hx3 _ H5.out.2.2.2.2.2.2.1).trans H5.out.1;have k2:Bk W3 (w2.heap.size+1) _ _:=(hx3 _ H5.out.2.2.2.2.2.2.2).trans H5.out.2.1;have ka:Bk W3 Ba _ _:=(hx3 _ (.inl HR.out.2.2.2.1)).trans H5.out.2.2.1;have kx:Bk W3 Bx _ _:=(hx3 _ (.inl HR.out.2.2.2.2.1)).trans H5.out.2.2.2.1;have kr:=H5.out.2.2.2.2.2.1.kc hk3 (by decide);have kB:Bk W3 Bs _ _:=hk3.same _ _ _ _ H5.out.2.2.2.2.1 (by decide);have a0:W3.cell? ⟨Ba,0,none⟩=some (.int .i64 (x:Int)):=by rw[ka.cell];rfl
      have a1:=ka.frozen 0;obtain⟨p0,p1,p2,p3,p4,p5⟩:=kx.three;obtain⟨q0,q1,q2,q3,_⟩:=k1.four;obtain⟨r0,r1,r2,_⟩:=k2.three;have H3:=Lib.hid (And.intro hJ3 (And.intro ka (And.intro kx (And.intro kr kB))));clear hJ3 hk3 hx3 k1 k2 kr kB ka kx;have n1:¬w2.heap.size=Ba:=by omega
      have n2:¬w2.heap.size+1=Ba:=by omega
      have n3:¬Ba=w2.heap.size:=by omega
      have n4:¬Ba=w2.heap.size+1:=by omega
      have n5:¬Ba=Bx:=HX.out.2.2;have n6:¬Bx=Ba:=fun e=>HX.out.2.2 e.symm
      gi_wp2_with fail;gi_region_with (fail);all_goals (
        gi_wp2_with fail;obtain⟨m1,m2,m3',m4,m5,m6,m7⟩:=Ei (Xs:=eH Xs wo W5) (y:=S.1.to) (d0:=.int .i64 S.2.aw) (d1:=.slice A1 S.2.pd.length c1) (d2:=.bool S.2.bd) H3.out.2.1 H3.out.2.2.1 H3.out.2.2.2.2 H3.out.2.2.2.1 (.inl HR.out.2.2.2.1) (.inl HR.out.2.2.2.2.1) _ rfl;have ht:=HP.out.2.1;refine⟨⟨S.1.to,_,S.2,_,_,ht.2.2.1,?_,HP.out.2.2,HK.out.1 _ _ _ _ H3.out.1 m5 m6,.inl (.inl HR.out.2.2.2.1),.inl (.inl HR.out.2.2.2.2.1),m1,m2,m4,m3'⟩,?_⟩
        ·rw[←HP.out.1];simp[wB]
        ·rw[m7,HA.out];omega)
     ·have H3:=Lib.hid hJx3;clear hJx3 hk3 hx3;gi_wp2;refine bn ?_;exact⟨⟨_,rfl⟩,.inr ⟨_,_,trivial,H3.out⟩⟩
    ·have HR:=Lib.hid (And.intro hpr hJ);have u1:¬(x:Int)<(l.length:Int):=by omega
     clear hpr hpd hJ hXa hXx ka kx hr kB;gi_wp2;go_end0;refine⟨⟨_,rfl⟩,.inl ⟨pre,?_,Xs,HR.out.2⟩⟩
     have:=HR.out.1
     rw[mG,if_neg hxl,List.append_nil] at this;exact this
theorem nH (l:List UInt8) (x0:Nat) (Z0:Lx) (A:Option Addr) (n c:Nat) (w:World) :
    Calls Tryz.prog 62 #[.string ⟨l.toArray⟩,.int .i64 (x0:Int),.agg #[.int .i64 Z0.aw,.slice A n c,.bool Z0.bd]] w fun e w'=>e=.returned (.func (.func 84) #[] #[.pointer (some ⟨w.heap.size+1,0,none⟩),.pointer (some ⟨w.heap.size,0,none⟩),.pointer (some ⟨w.heap.size+1+1,0,none⟩)]) ∧
      w'=((w.alloc (.cells #[.string ⟨l.toArray⟩] 9)).alloc (.cells #[.int .i64 (x0:Int)] 3)).alloc (.cells #[.int .i64 Z0.aw,.slice A n c,.bool Z0.bd] 88):=by
  go_enter Tryz.func62,Tryz.ntmps62;go_wp2;go_ret;exact⟨rfl,rfl⟩
theorem rW (Ba Bs Bx:Nat) (l:List UInt8) (x0:Nat) (Z0:Lx) (v0:Value) (w:World) (hl:l.length≤900) (hx0:x0≤l.length) (hpd0:Z0.pd.length≤x0) (hBs:Bk w Bs 9 #[.string ⟨l.toArray⟩]) (hBa:Bk w Ba 3 #[.int .i64 (x0:Int)]) (hBx:Bk w Bx 88 #[.int .i64 Z0.aw,v0,.bool Z0.bd]) (hr0:Rt w 134 2 v0 Z0.pd.length (bK Z0.pd)) (hab:Ba≠Bx) :
    FG (fun k=>k=Ba∨k=Bx) uc Tryz.prog 84 #[.pointer (some ⟨Ba,0,none⟩),.pointer (some ⟨Bs,0,none⟩),.pointer (some ⟨Bx,0,none⟩)] El (KC Aj) (CP l x0 Z0) (fun _=>True) (ww l x0 Z0) FJ w:=fun n l' J Jx W hW hF hFx hY h0=>
  vR n l' Ba Bs Bx l x0 Z0 v0 J Jx hl hx0 hpd0 hab hF hY W (hBs.below hW hBs.lt) (hBa.below hW hBa.lt) (hBx.below hW hBx.lt) (hr0.next hW) h0
abbrev nX (q:PV):List Value:=[.int .i64 (q.t.kd:Int),.int .i64 (q.t.fr:Int),.int .i64 (q.t.to:Int),.bool q.t.op,.int .i64 q.X.aw,q.v,.bool q.X.bd]
def dy (xs:List PV):List Value:=xs.flatMap nX
theorem ig (a b:List PV):dy (a++b)=dy a++dy b:=by simp[dy]
theorem fw (q:PV):(nX q).length=7:=rfl
def fC (xs:List PV):List (Tk×Lx):=xs.map fun q=>(q.t,q.X)
theorem C3 (xs:List PV):fC xs=(wB xs).map Prod.fst:=by simp[fC,wB]
theorem um (l:List UInt8) (x:Nat) (X:Lx):(jK l x X).map Prod.fst=cN l x X:=by unfold jK;rw[List.map_map];exact List.map_id _
def gN (Z0:Lx) (pre:List PV):Lx:=pre.foldl (fun _ q=>q.Y) Z0
theorem jT (Z0:Lx) (pre:List PV) (q:PV):gN Z0 (pre++[q])=q.Y:=by unfold gN;rw[List.foldl_append];rfl
theorem wI (l:List UInt8):∀(x:Nat) (X:Lx),((jK l x X).foldl (fun _ q=>q.2) X)=(jC l x X).2:=
  kw l (fun x X h=>by rw[mG,eD,if_neg h,if_neg h];rfl) (fun x X h ih=>by
    rw[mG,eD,if_pos h,if_pos h,List.foldl_cons];exact ih)
theorem B7 (Z0:Lx):∀(pre:List PV),gN Z0 pre=(wB pre).foldl (fun _ q=>q.2) Z0:=fun pre=>by
  unfold gN wB;rw[List.foldl_map]
theorem qI {l:List UInt8} {x:Nat} {X:Lx} {ys:List PV} (h:CP l x X ys):fC ys=cN l x X∧gN X ys=(jC l x X).2:=by
  unfold CP at h;exact⟨by rw[C3,h,um],by rw[B7,h,wI]⟩
theorem pM (l:List UInt8):∀x X,(cN l x X).length≤l.length-x:=
  kw l (fun x X h=>by rw[cx,if_neg h];simp) (fun x X h ih=>by
    have:=cL l x h X
    rw[cx,if_pos h,List.length_cons];omega)
theorem ww.len {l:List UInt8} {x:Nat} {X:Lx} {pre:List PV} (h:ww l x X pre):pre.length≤l.length:=by
  have h1:=h.length_le;have h2:=pM l x X;have h3:(wB pre).length=pre.length:=by simp[wB]
  have h4:(jK l x X).length=(cN l x X).length:=by simp[jK]
  omega
end
theorem Tryz.infoPlace:(Tryz.prog.info? 96).map (fun i=>(i.zero,i.size,i.bytes))=some (some (.agg #[.int .i64 0,.int .i64 0,.int .i64 0,.bool false,.int .i64 0,.slice none 0 0,.bool false]),7,72):=by kernel_rfl
theorem DJ {X:Nat→Prop} {A B:World} {N e sz n:Nat} {v:Value} {xs:List Value} (h:A.ownsRow N e sz v n xs) (hx:XG X A B) (hn:∀k,v.ownBlock=some k→¬X k):B.ownsRow N e sz v n xs:=by
  refine⟨h.1,?_⟩;rcases h.2 with h|⟨g,cap,cur,he,hg,hh,r⟩
  ·exact .inl h
  ·exact .inr ⟨g,cap,cur,he,hg,(hx.block g (Array.getElem?_eq_some_iff.1 hh).1 (hn g (by rw[he];rfl))).trans hh,r⟩
structure jF (w:World) (g:Nat) (l:List UInt8) (X:Lx) (xs:List PV) (lv pv:Value):Prop where
  bk:Bk w g 90 #[.string ⟨l.toArray⟩,lv,.int .i64 X.aw,pv,.bool X.bd]
  ps:∀q∈xs,Rt w 134 2 q.v q.X.pd.length (bK q.X.pd)
  pv:Rt w 134 2 pv X.pd.length (bK X.pd)
theorem jF.kc {T:List TypeId} {w w':World} {g:Nat} {l:List UInt8} {X:Lx} {xs:List PV} {lv pv:Value} (h:jF w g l X xs lv pv) (hk:KC T w w') (hb:w'.heap[g]? = w.heap[g]?) (hd:134∉T):jF w' g l X xs lv pv:=
  ⟨hb.trans h.bk,fun q hq=>(h.ps q hq).kc hk hd,h.pv.kc hk hd⟩
def mE (w:World) (g:Nat) (l:List UInt8):Prop:=∃(xs:List PV) (lv pv:Value),fC xs=cM l∧jF w g l (dV l).2 xs lv pv∧Rt w 96 7 lv xs.length (dy xs)
end Go.Proofs.YtfagdpfgifgnoaaGreatDoor
