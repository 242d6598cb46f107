/- Package relex: from, as a sequence: the tokens of a text from a place on, each with the lexings ahead and behind. -/
import Derived.Test.YtnclfgkpcpcapaaGreatDoorEc9
import Derived.Test.YtnclfgkpcpcapaaGreatDoorRfz
import Derived.Test.YtnclfgkpcpcapaaGreatDoorLa9
namespace Go.Proofs.YtnclfgkpcpcapaaGreatDoor
open Go.RowKit
set_option linter.unusedVariables false
set_option linter.unusedSimpArgs false
set_option maxRecDepth 100000
attribute [local go_sem] Oper.semAt_some
structure PV where
  t:Tk
  X:Lx
  v:Value
  Y:Lx
  u:Value
abbrev encV (q:PV):Array Value:=#[.agg #[.int .i64 (q.t.kd:Int),.int .i64 (q.t.fr:Int),.int .i64 (q.t.to:Int),.bool q.t.op,.int .i64 q.X.aw,q.v,.bool q.X.bd],.agg #[.int .i64 q.Y.aw,q.u,.bool q.Y.bd]]
def triA (l:List UInt8) (x:Nat) (X:Lx):List ((Tk×Lx)×Lx):=(plcA l x X).map fun p=>(p,(stepL l p.1.fr p.2).2)
theorem triA_eq (l:List UInt8) (x:Nat) (X:Lx):triA l x X=if x<l.length then (((stepL l x X).1,X),(stepL l x X).2)::triA l (stepL l x X).1.to (stepL l x X).2 else []:=by
  unfold triA
  rw[plcA_eq]
  by_cases hx:x<l.length
  ·have:=(stepL_to l x hx X).1
   rw[if_pos hx,if_pos hx,List.map_cons,this]
  ·rw[if_neg hx,if_neg hx];rfl
def qrs (xs:List PV):List ((Tk×Lx)×Lx):=xs.map fun q=>((q.t,q.X),q.Y)
def St10 (l:List UInt8) (x:Nat) (X:Lx) (pre:List PV):Prop:=qrs pre<+:triA l x X
def Sx10 (l:List UInt8) (x:Nat) (X:Lx) (pre:List PV):Prop:=qrs pre=triA l x X
def Dy10 (q:PV) (W:World):Prop:=Rt W 73 2 q.v q.X.pd.length (dcls q.X.pd)∧Rt W 73 2 q.u q.Y.pd.length (dcls q.Y.pd)
abbrev TI10:List TypeId:=[3,45]
abbrev TL10:List TypeId:=[52,42,47,45,3]
def atOf (w:World) (B:Nat):Nat:=match w.cell? ⟨B,0,none⟩ with|some v=>(intOf v).toNat|none=>0
theorem fin_fr {Xs:Nat→Prop} {W3:World} {Ba Bx Bs:Nat} {y:Nat} {x:Int} {u0 u1 u2 d0 d1 d2 v:Value} {l:List UInt8} {n:Nat} {xs:List Value} (ka:Bk W3 Ba 3 #[.int .i64 x]) (kx:Bk W3 Bx 45 #[u0,u1,u2]) (kB:Bk W3 Bs 9 #[.string ⟨l.toArray⟩]) (hr:Rt W3 73 2 v n xs) (h1:Xs Ba) (h2:Xs Bx) :
    ∀W6,W6=((((W3.setCell ⟨Ba,0,none⟩ (.int .i64 (y:Int))).setCell ⟨Bx,0,none⟩ d0).setCell ⟨Bx,1,none⟩ d1).setCell ⟨Bx,2,none⟩ d2).drew →
     Bk W6 Ba 3 #[.int .i64 (y:Int)]∧Bk W6 Bx 45 #[d0,d1,d2]∧Bk W6 Bs 9 #[.string ⟨l.toArray⟩]∧Rt W6 73 2 v n xs∧XG Xs W3 W6∧KC TI10 W3 W6∧atOf W6 Ba=y:=by
  rintro W6 rfl
  have hne:Ba≠Bx:=fun e=>by
    subst e
    have h9:=(show W3.heap[Ba]? = _ from ka).symm.trans kx
    injection h9 with h9
    injection h9 with _ h9
    exact absurd h9 (by decide)
  have hsa:Bs≠Ba:=fun e=>by
    subst e
    have h9:=(show W3.heap[Bs]? = _ from kB).symm.trans ka
    injection h9 with h9
    injection h9 with _ h9
    exact absurd h9 (by decide)
  have hsx:Bs≠Bx:=fun e=>by
    subst e
    have h9:=(show W3.heap[Bs]? = _ from kB).symm.trans kx
    injection h9 with h9
    injection h9 with _ h9
    exact absurd h9 (by decide)
  have k0:=ka.set 0 (.int .i64 (y:Int))
  have kx1:=kx.far (p:=⟨Ba,0,none⟩) hne.symm (.int .i64 (y:Int))
  have kB1:=kB.far (p:=⟨Ba,0,none⟩) hsa (.int .i64 (y:Int))
  have hr1:=hr.keep (grown_set (grown_refl W3 (some Ba)) 0 (.int .i64 (y:Int))) (ka.row (by decide))
  have hx1:=(XG.refl Xs W3).set (.inl h1) 0 (.int .i64 (y:Int))
  have hk1:=(KC.refl TI10 W3).set ka (by decide) 0 (.int .i64 (y:Int))
  generalize W3.setCell ⟨Ba,0,none⟩ (.int .i64 (y:Int))=W4 at k0 kx1 kB1 hr1 hx1 hk1 ⊢
  have k2:=((k0.far (p:=⟨Bx,0,none⟩) hne d0).far (p:=⟨Bx,1,none⟩) hne d1).far (p:=⟨Bx,2,none⟩) hne d2
  have kx2:=((kx1.set 0 d0).set 1 d1).set 2 d2
  have kB2:=((kB1.far (p:=⟨Bx,0,none⟩) hsx d0).far (p:=⟨Bx,1,none⟩) hsx d1).far (p:=⟨Bx,2,none⟩) hsx d2
  have hr2:=hr1.keep (grown_set (grown_set (grown_set (grown_refl W4 (some Bx)) 0 d0) 1 d1) 2 d2) (kx1.row (by decide))
  have hx2:=((hx1.set (.inl h2) 0 d0).set (.inl h2) 1 d1).set (.inl h2) 2 d2
  have hk2:=((hk1.set kx1 (by decide) 0 d0).set (kx1.set 0 d0) (by decide) 1 d1).set ((kx1.set 0 d0).set 1 d1) (by decide) 2 d2
  generalize ((W4.setCell ⟨Bx,0,none⟩ d0).setCell ⟨Bx,1,none⟩ d1).setCell ⟨Bx,2,none⟩ d2=W5 at k2 kx2 kB2 hr2 hx2 hk2 ⊢
  have hb:Below W5.heap.size W5 W5.drew:=(Below.refl _ W5).drew
  have k6:Bk W5.drew Ba 3 #[.int .i64 (y:Int)]:=k2
  refine⟨k6,kx2,kB2,hr2.next hb,hx2.below hb,hk2.trans (KC.of_below hb),?_⟩
  unfold atOf
  rw[k6.cell]
  simp[intOf]
set_option maxHeartbeats 4000000 in
theorem from10_in (n l' Ba Bs Bx:Nat) (l:List UInt8) (x0:Nat) (Z0:Lx) (v0:Value) (J Jx:(Nat→Prop)→List PV→World→Prop) (hl:l.length≤900) (hx0:x0≤l.length) (hpd0:Z0.pd.length≤x0) (hab:Ba≠Bx) (hF:FitsT TI10 J)
    (hY:∀X pre q W,J X pre W→St10 l x0 Z0 (pre++[q])→Dy10 q W→∀m,YieldAt Fence.wide m Tryz.prog l' (encV q) W fun e W'=>
      (e=.returned (.bool true)∧J X (pre++[q]) W'∧KC TL10 W W'∧∀k,X k→W'.heap[k]? = W.heap[k]?)∨(e=.returned (.bool false)∧Jx X (pre++[q]) W'∧KC TL10 W W'∧∀k,X k→W'.heap[k]? = W.heap[k]?))
    (W:World) (hBs:Bk W Bs 9 #[.string ⟨l.toArray⟩]) (hBa:Bk W Ba 3 #[.int .i64 (x0:Int)]) (hBx:Bk W Bx 45 #[.int .i64 Z0.aw,v0,.bool Z0.bd]) (hr0:Rt W 73 2 v0 Z0.pd.length (dcls Z0.pd)) (h0:J (fun k=>k=Ba∨k=Bx) [] W) :
    CallsIn Fence.wide n Tryz.prog 23 #[.func (.yield l') #[] #[],.pointer (some ⟨Ba,0,none⟩),.pointer (some ⟨Bs,0,none⟩),.pointer (some ⟨Bx,0,none⟩)] W fun e W'=>(∃v,e=.returned v) ∧
      ((∃ys X,Sx10 l x0 Z0 ys∧J X ys W')∨(∃pre X,True∧Jx X pre W')):=by
  have HK:=Lib.hid (And.intro hF hY)
  have H0:=Lib.hid (And.intro hBs (And.intro hBa (And.intro hBx (And.intro hr0 h0))))
  have HX:=Lib.hid (And.intro hx0 (And.intro hpd0 hab))
  clear hF hY hBs hBa hBx hr0 h0 hx0 hpd0 hab
  refine callsIn_of_wp Tryz.func23 rfl trivial ?_ rfl
  simp only[Tryz.ntmps23,List.size_toArray,List.length_cons,List.length_nil,Nat.reduceAdd,Nat.reduceSub,Array.replicate_succ,Array.replicate_zero,List.push_toArray,List.append_toArray,List.nil_append,List.cons_append]
  gi_wp2_with fail
  gi_loopw [5,6] (fun _ _ wr=>∃(x:Nat) (pre:List PV) (X:Lx) (v:Value) (Xs:Nat→Prop),x≤l.length∧qrs pre++triA l x X=triA l x0 Z0∧X.pd.length≤x∧J Xs pre wr∧Xs Ba∧Xs Bx ∧
      Bk wr Ba 3 #[.int .i64 (x:Int)]∧Bk wr Bx 45 #[.int .i64 X.aw,v,.bool X.bd]∧Rt wr 73 2 v X.pd.length (dcls X.pd)∧Bk wr Bs 9 #[.string ⟨l.toArray⟩]) (fun _ _ wr=>l.length-atOf wr Ba)
  case atStart=>
    exact⟨x0,[],Z0,v0,_,HX.out.1,rfl,HX.out.2.1,H0.out.2.2.2.2,.inl rfl,.inr rfl,H0.out.2.1,H0.out.2.2.1,H0.out.2.2.2.1,H0.out.1⟩
  case round=>
    obtain⟨x,pre,X,v,Xs,hx,hpr,hpd,hJ,hXa,hXx,ka,kx,hr,kB⟩:=hrel
    obtain⟨A,cp,rfl⟩:=hr.form
    have y0:wr.cell? ⟨Bs,0,none⟩=some (.string ⟨l.toArray⟩):=by rw[kB.cell];rfl
    have a0:wr.cell? ⟨Ba,0,none⟩=some (.int .i64 (x:Int)):=by rw[ka.cell];rfl
    have a1:=ka.frozen 0
    obtain⟨p0,p1,p2,p3,p4,p5⟩:=kx.three
    have hBa:=ka.lt
    have hBx:=kx.lt
    have hBs:=kB.lt
    have hat:atOf wr Ba=x:=by unfold atOf;rw[a0];simp[intOf]
    by_cases hxl:x<l.length
    ·have u1:(x:Int)<(l.length:Int):=by omega
     have hpd2:X.pd.length≤10000:=by omega
     have HR:=Lib.hid (And.intro hpr (And.intro hpd (And.intro hJ (And.intro hXa (And.intro hXx (And.intro ka (And.intro kx (And.intro hr kB))))))))
     obtain⟨S,hS⟩:∃S,S=stepL l x X:=⟨_,rfl⟩
     have hstep:Calls Tryz.prog 24 #[.string ⟨l.toArray⟩,.int .i64 (x:Int),.agg #[.int .i64 X.aw,.slice A X.pd.length cp,.bool X.bd]] wr fun e w'=>∃v,e=.returned (.tuple #[tkv S.1,v])∧LxP w' S.2 v∧Below wr.heap.size wr w':=by
       rw[hS];exact step9_m l x X A _ cp wr hl hxl rfl hr hpd2
     have HS:=Lib.hid (And.intro hS hstep)
     have HA:=Lib.hid hat
     clear hpr hpd hJ hXa hXx ka kx hr kB hS hstep hat
     obtain⟨wo,rfl⟩:∃wo:World,wo=wr:=⟨_,rfl⟩
     gi_wp2_with fail
     rename_i K1 hK1 K0 hK0
     have HKK:=Lib.hid hK0
     have HK1:=Lib.hid hK1
     clear hK0 hK1
     refine⟨trivial,fun h=>by simp[Fence.wide] at h,?_⟩
     refine(callsIn_wide.2 HS.out.2).mono ?_
     rintro e w2 ⟨v2,rfl,⟨v1,rfl,hr2⟩,hb2⟩
     obtain⟨A1,c1,rfl⟩:=hr2.form
     unfold tkv lxv
     have ka:=HR.out.2.2.2.2.2.1.below hb2 hBa
     have kx:=HR.out.2.2.2.2.2.2.1.below hb2 hBx
     have kB:=HR.out.2.2.2.2.2.2.2.2.below hb2 hBs
     have hr:=HR.out.2.2.2.2.2.2.2.1.next hb2
     have a0:w2.cell? ⟨Ba,0,none⟩=some (.int .i64 (x:Int)):=by rw[ka.cell];rfl
     obtain⟨p0,p1,p2,p3,p4,p5⟩:=kx.three
     have hBa2:=ka.lt
     have hBx2:=kx.lt
     have hBx3:Bx<w2.heap.size+1:=by omega
     have H2:=Lib.hid (And.intro hr2 (And.intro hb2 (And.intro ka (And.intro kx (And.intro kB hr)))))
     clear hr2 hb2 ka kx kB hr
     gi_wp2_with fail
     refine HKK.out _ _ ?_
     gi_wp2_with fail
     have hS:=HS.out.1
     have mb:Below wo.heap.size wo ((w2.alloc (.cells #[.int .i64 (S.1.kd:Int),.int .i64 (S.1.fr:Int),.int .i64 (S.1.to:Int),.bool S.1.op] 40)).alloc (.cells #[.int .i64 S.2.aw,.slice A1 S.2.pd.length c1,.bool S.2.bd] 45)):=(H2.out.2.1.alloc H2.out.2.1.size _).alloc (by have:=H2.out.2.1.size;simp;omega) _
     have mB:Below w2.heap.size w2 ((w2.alloc (.cells #[.int .i64 (S.1.kd:Int),.int .i64 (S.1.fr:Int),.int .i64 (S.1.to:Int),.bool S.1.op] 40)).alloc (.cells #[.int .i64 S.2.aw,.slice A1 S.2.pd.length c1,.bool S.2.bd] 45)):=((Below.refl _ _).alloc (Nat.le_refl _) _).alloc (by simp) _
     have m1:Bk ((w2.alloc (.cells #[.int .i64 (S.1.kd:Int),.int .i64 (S.1.fr:Int),.int .i64 (S.1.to:Int),.bool S.1.op] 40)).alloc (.cells #[.int .i64 S.2.aw,.slice A1 S.2.pd.length c1,.bool S.2.bd] 45)) w2.heap.size 40 #[.int .i64 (S.1.kd:Int),.int .i64 (S.1.fr:Int),.int .i64 (S.1.to:Int),.bool S.1.op]:=(Bk.new w2 _ _).alloc _
     have m2:=bk_second w2 #[.int .i64 (S.1.kd:Int),.int .i64 (S.1.fr:Int),.int .i64 (S.1.to:Int),.bool S.1.op] #[.int .i64 S.2.aw,.slice A1 S.2.pd.length c1,.bool S.2.bd] 40 45
     have hws:wo.heap.size≤w2.heap.size:=H2.out.2.1.size
     have m3:((w2.alloc (.cells #[.int .i64 (S.1.kd:Int),.int .i64 (S.1.fr:Int),.int .i64 (S.1.to:Int),.bool S.1.op] 40)).alloc (.cells #[.int .i64 S.2.aw,.slice A1 S.2.pd.length c1,.bool S.2.bd] 45)).heap.size=w2.heap.size+2:=by simp
     generalize World.alloc _ _=W5 at mb mB m1 m2 m3 ⊢
     have ka:=H2.out.2.2.1.below mB hBa2
     have kx:=H2.out.2.2.2.1.below mB hBx2
     have kB:=H2.out.2.2.2.2.1.below mB H2.out.2.2.2.2.1.lt
     have hr:=H2.out.2.2.2.2.2.next mB
     have hr2:=H2.out.1.next mB
     have mJ:=HK.out.1 _ _ _ _ HR.out.2.2.1 (XG.of_below mb) (KC.of_below mb)
     have hpa:qrs pre++((S.1,X),S.2)::triA l S.1.to S.2=triA l x0 Z0:=by
       rw[hS,←HR.out.1,triA_eq l x X,if_pos hxl]
     obtain⟨fn,tmps,assign,body,hy,hR⟩:=HK.out.2 _ pre ⟨S.1,X,.slice A X.pd.length cp,S.2,.slice A1 S.2.pd.length c1⟩ W5 mJ (by
       unfold St10;rw[←hpa];exact⟨triA l S.1.to S.2,by simp[qrs]⟩) ⟨hr,hr2⟩ (n-1)
     have hR2:=Lib.hid hR
     clear hR
     simp only[encV] at hy
     have hy2:=Lib.hid hy
     clear hy
     have hto:=stepL_to l x hxl X
     have hpdS:S.2.pd.length≤S.1.to:=by
       have:=step_pd l x X
       rw[←hS] at this hto
       have:=HR.out.2.1
       omega
     rw[←hS] at hto
     have a0:W5.cell? ⟨Ba,0,none⟩=some (.int .i64 (x:Int)):=by rw[ka.cell];rfl
     obtain⟨p0,p1,p2,p3,p4,p5⟩:=kx.three
     obtain⟨q0,q1,q2,q3,_⟩:=m1.four
     obtain⟨r0,r1,r2,_⟩:=m2.three
     have hn1:xNew Xs wo W5 w2.heap.size:=.inr ⟨hws,by omega⟩
     have hn2:xNew Xs wo W5 (w2.heap.size+1):=.inr ⟨by omega,by omega⟩
     have H5:=Lib.hid (And.intro m1 (And.intro m2 (And.intro ka (And.intro kx (And.intro kB (And.intro hr2 (And.intro hn1 hn2)))))))
     clear m1 m2 mJ ka kx kB hr hr2 mb mB hn1 hn2
     have HP:=Lib.hid (And.intro hpa (And.intro hto hpdS))
     clear hS hpa hpdS hto
     refine HK1.out _ _ ?_
     gi_wp2_with fail
     rw[hy2.out]
     gi_wp2_with fail
     refine⟨fun h=>by simp[Fence.wide] at h,?_⟩
     refine hR2.out.mono ?_
     rintro e W3 (⟨rfl,hJ3,hk3,hx3⟩|⟨rfl,hJx3,hk3,hx3⟩)
     ·have k1:Bk W3 w2.heap.size _ _:=(hx3 _ H5.out.2.2.2.2.2.2.1).trans H5.out.1
      have k2:Bk W3 (w2.heap.size+1) _ _:=(hx3 _ H5.out.2.2.2.2.2.2.2).trans H5.out.2.1
      have ka:Bk W3 Ba _ _:=(hx3 _ (.inl HR.out.2.2.2.1)).trans H5.out.2.2.1
      have kx:Bk W3 Bx _ _:=(hx3 _ (.inl HR.out.2.2.2.2.1)).trans H5.out.2.2.2.1
      have kr:=H5.out.2.2.2.2.2.1.kc hk3 (by decide)
      have kB:Bk W3 Bs _ _:=hk3.same _ _ _ _ H5.out.2.2.2.2.1 (by decide)
      have a0:W3.cell? ⟨Ba,0,none⟩=some (.int .i64 (x:Int)):=by rw[ka.cell];rfl
      have a1:=ka.frozen 0
      obtain⟨p0,p1,p2,p3,p4,p5⟩:=kx.three
      obtain⟨q0,q1,q2,q3,_⟩:=k1.four
      obtain⟨r0,r1,r2,_⟩:=k2.three
      have H3:=Lib.hid (And.intro hJ3 (And.intro ka (And.intro kx (And.intro kr kB))))
      clear hJ3 hk3 hx3 k1 k2 kr kB ka kx
      have n1:¬w2.heap.size=Ba:=by omega
      have n2:¬w2.heap.size+1=Ba:=by omega
      have n3:¬Ba=w2.heap.size:=by omega
      have n4:¬Ba=w2.heap.size+1:=by omega
      have n5:¬Ba=Bx:=HX.out.2.2
      have n6:¬Bx=Ba:=fun e=>HX.out.2.2 e.symm
      gi_wp2_with fail
      gi_region_with (fail)
      all_goals (
        gi_wp2_with fail
        obtain⟨m1,m2,m3',m4,m5,m6,m7⟩:=fin_fr (Xs:=xNew Xs wo W5) (y:=S.1.to) (d0:=.int .i64 S.2.aw) (d1:=.slice A1 S.2.pd.length c1) (d2:=.bool S.2.bd) H3.out.2.1 H3.out.2.2.1 H3.out.2.2.2.2 H3.out.2.2.2.1 (.inl HR.out.2.2.2.1) (.inl HR.out.2.2.2.2.1) _ rfl
        have ht:=HP.out.2.1
        refine⟨⟨S.1.to,_,S.2,_,_,ht.2.2.1,?_,HP.out.2.2,HK.out.1 _ _ _ _ H3.out.1 m5 m6,.inl (.inl HR.out.2.2.2.1),.inl (.inl HR.out.2.2.2.2.1),m1,m2,m4,m3'⟩,?_⟩
        ·rw[←HP.out.1];simp[qrs]
        ·rw[m7,HA.out];omega)
     ·have H3:=Lib.hid hJx3
      clear hJx3 hk3 hx3
      gi_wp2
      refine bodyPost_ret (results_none rfl _ _ _) rfl ?_
      exact⟨⟨_,rfl⟩,.inr ⟨_,_,trivial,H3.out⟩⟩
    ·have HR:=Lib.hid (And.intro hpr hJ)
     have u1:¬(x:Int)<(l.length:Int):=by omega
     clear hpr hpd hJ hXa hXx ka kx hr kB
     gi_wp2
     go_end0
     refine⟨⟨_,rfl⟩,.inl ⟨pre,?_,Xs,HR.out.2⟩⟩
     have:=HR.out.1
     rw[triA_eq,if_neg hxl,List.append_nil] at this
     exact this
theorem from10_p (l:List UInt8) (x0:Nat) (Z0:Lx) (A:Option Addr) (n c:Nat) (w:World) :
    Calls Tryz.prog 12 #[.string ⟨l.toArray⟩,.int .i64 (x0:Int),.agg #[.int .i64 Z0.aw,.slice A n c,.bool Z0.bd]] w fun e w'=>e=.returned (.func (.func 23) #[] #[.pointer (some ⟨w.heap.size+1,0,none⟩),.pointer (some ⟨w.heap.size,0,none⟩),.pointer (some ⟨w.heap.size+1+1,0,none⟩)]) ∧
      w'=((w.alloc (.cells #[.string ⟨l.toArray⟩] 9)).alloc (.cells #[.int .i64 (x0:Int)] 3)).alloc (.cells #[.int .i64 Z0.aw,.slice A n c,.bool Z0.bd] 45):=by
  go_enter Tryz.func12,Tryz.ntmps12
  go_wp2
  go_ret
  exact⟨rfl,rfl⟩
theorem from10_y (Ba Bs Bx:Nat) (l:List UInt8) (x0:Nat) (Z0:Lx) (v0:Value) (w:World) (hl:l.length≤900) (hx0:x0≤l.length) (hpd0:Z0.pd.length≤x0) (hBs:Bk w Bs 9 #[.string ⟨l.toArray⟩]) (hBa:Bk w Ba 3 #[.int .i64 (x0:Int)]) (hBx:Bk w Bx 45 #[.int .i64 Z0.aw,v0,.bool Z0.bd]) (hr0:Rt w 73 2 v0 Z0.pd.length (dcls Z0.pd)) (hab:Ba≠Bx) :
    SeqZ (fun k=>k=Ba∨k=Bx) TI10 Tryz.prog 23 #[.pointer (some ⟨Ba,0,none⟩),.pointer (some ⟨Bs,0,none⟩),.pointer (some ⟨Bx,0,none⟩)] encV (KC TL10) (Sx10 l x0 Z0) (fun _=>True) (St10 l x0 Z0) Dy10 w:=fun n l' J Jx W hW hF hFx hY h0=>
  from10_in n l' Ba Bs Bx l x0 Z0 v0 J Jx hl hx0 hpd0 hab hF hY W (hBs.below hW hBs.lt) (hBa.below hW hBa.lt) (hBx.below hW hBx.lt) (hr0.next hW) h0
abbrev pvc (q:PV):List Value:=[.int .i64 (q.t.kd:Int),.int .i64 (q.t.fr:Int),.int .i64 (q.t.to:Int),.bool q.t.op,.int .i64 q.X.aw,q.v,.bool q.X.bd]
def pvs (xs:List PV):List Value:=xs.flatMap pvc
theorem pvs_app (a b:List PV):pvs (a++b)=pvs a++pvs b:=by simp[pvs]
theorem pvc_len (q:PV):(pvc q).length=7:=rfl
def prx (xs:List PV):List (Tk×Lx):=xs.map fun q=>(q.t,q.X)
theorem prx_q (xs:List PV):prx xs=(qrs xs).map Prod.fst:=by simp[prx,qrs]
theorem tri_fst (l:List UInt8) (x:Nat) (X:Lx):(triA l x X).map Prod.fst=plcA l x X:=by unfold triA;rw[List.map_map];exact List.map_id _
def lastP (Z0:Lx) (pre:List PV):Lx:=pre.foldl (fun _ q=>q.Y) Z0
theorem lastP_snoc (Z0:Lx) (pre:List PV) (q:PV):lastP Z0 (pre++[q])=q.Y:=by unfold lastP;rw[List.foldl_append];rfl
theorem tri_last (l:List UInt8):∀(x:Nat) (X:Lx),((triA l x X).foldl (fun _ q=>q.2) X)=(lexA l x X).2:=
  plc_ind l (fun x X h=>by rw[triA_eq,lexA_eq,if_neg h,if_neg h];rfl) (fun x X h ih=>by
    rw[triA_eq,lexA_eq,if_pos h,if_pos h,List.foldl_cons]
    exact ih)
theorem lastP_q (Z0:Lx):∀(pre:List PV),lastP Z0 pre=(qrs pre).foldl (fun _ q=>q.2) Z0:=fun pre=>by
  unfold lastP qrs
  rw[List.foldl_map]
theorem sx10_end {l:List UInt8} {x:Nat} {X:Lx} {ys:List PV} (h:Sx10 l x X ys):prx ys=plcA l x X∧lastP X ys=(lexA l x X).2:=by
  unfold Sx10 at h
  exact⟨by rw[prx_q,h,tri_fst],by rw[lastP_q,h,tri_last]⟩
theorem plc_len (l:List UInt8):∀x X,(plcA l x X).length≤l.length-x:=
  plc_ind l (fun x X h=>by rw[plcA_eq,if_neg h];simp) (fun x X h ih=>by
    have:=stepL_to l x h X
    rw[plcA_eq,if_pos h,List.length_cons]
    omega)
theorem St10.len {l:List UInt8} {x:Nat} {X:Lx} {pre:List PV} (h:St10 l x X pre):pre.length≤l.length:=by
  have h1:=h.length_le
  have h2:=plc_len l x X
  have h3:(qrs pre).length=pre.length:=by simp[qrs]
  have h4:(triA l x X).length=(plcA l x X).length:=by simp[triA]
  omega
end Go.Proofs.YtnclfgkpcpcapaaGreatDoor
