/- Package token: each, as a sequence: the tokens of a text, each with the lexing behind it. -/
import Derived.Test.YtlbfdbinaekjoaaGreatDoorSp9
import Derived.Test.YtlbfdbinaekjoaaGreatDoorRfy
import Derived.Stop.RegionWithIn
namespace Go.Proofs.YtlbfdbinaekjoaaGreatDoor
open Go.RowKit
set_option linter.unusedVariables false
set_option linter.unusedSimpArgs false
set_option maxRecDepth 100000
attribute [local go_sem] Oper.semAt_some
def pairF (l:List UInt8):Nat→Nat→Lx→List (Tk×Lx)
  | 0,_,_=>[]
  | m+1,x,X=>if x<l.length then stepL l x X::pairF l m (stepL l x X).1.to (stepL l x X).2 else []
def pairA (l:List UInt8) (x:Nat) (X:Lx):List (Tk×Lx):=pairF l (l.length+1-x) x X
theorem pairF_fuel (l:List UInt8):∀(m m' x:Nat) (X:Lx),l.length<m+x→l.length<m'+x→pairF l m x X=pairF l m' x X
  | 0,m',x,X,h,h'=>by
    cases m' with
    | zero=>rfl
    | succ m'=>unfold pairF;rw[if_neg (by omega)]
  | m+1,0,x,X,h,h'=>by unfold pairF;rw[if_neg (by omega)]
  | m+1,m'+1,x,X,h,h'=>by
    unfold pairF
    by_cases hx:x<l.length
    ·have:=stepL_to l x hx X
     rw[if_pos hx,if_pos hx,pairF_fuel l m m' _ _ (by omega) (by omega)]
    ·rw[if_neg hx,if_neg hx]
theorem pairA_eq (l:List UInt8) (x:Nat) (X:Lx):pairA l x X=if x<l.length then stepL l x X::pairA l (stepL l x X).1.to (stepL l x X).2 else []:=by
  unfold pairA
  by_cases hx:x<l.length
  ·obtain⟨m,hm⟩:∃m,l.length+1-x=m+1:=⟨l.length-x,by omega⟩
   have:=stepL_to l x hx X
   rw[hm]
   show (if x<l.length then _ else _)=_
   rw[if_pos hx,if_pos hx,pairF_fuel l m (l.length+1-(stepL l x X).1.to) (stepL l x X).1.to (stepL l x X).2 (by omega) (by omega)]
  ·rw[if_neg hx]
   by_cases h0:l.length+1-x=0
   ·rw[h0];rfl
   ·obtain⟨m,hm⟩:∃m,l.length+1-x=m+1:=⟨l.length+1-x-1,by omega⟩
    rw[hm]
    show (if x<l.length then _ else _)=_
    rw[if_neg hx]
theorem step_pd (l:List UInt8) (x:Nat) (X:Lx):(stepL l x X).2.pd.length≤X.pd.length+1:=by
  unfold stepL
  split
  ·rename_i d r hb hp
   unfold docL
   split
   ·rw[hp];simp;omega
   ·show X.pd.length≤_;omega
  ·show (behindL _ _ X).pd.length≤_
   unfold behindL
   repeat' split
   all_goals simp
structure TV where
  t:Tk
  X:Lx
  v:Value
abbrev encT (x:TV):Array Value:=#[.agg #[.int .i64 (x.t.kd:Int),.int .i64 (x.t.fr:Int),.int .i64 (x.t.to:Int),.bool x.t.op],.agg #[.int .i64 x.X.aw,x.v,.bool x.X.bd]]
def prs (xs:List TV):List (Tk×Lx):=xs.map fun x=>(x.t,x.X)
def St9 (l:List UInt8) (pre:List TV):Prop:=prs pre<+:pairA l 0 lx0
def Sx9 (l:List UInt8) (pre:List TV):Prop:=prs pre=pairA l 0 lx0
def Dy9 (x:TV) (W:World):Prop:=Rt W 94 2 x.v x.X.pd.length (dcls x.X.pd)
abbrev TI:List TypeId:=[69,47]
abbrev TL:List TypeId:=[69,44,47]
theorem Rt.kc {T:List TypeId} {w w':World} {e:TypeId} {sz n:Nat} {v:Value} {xs:List Value} (h:Rt w e sz v n xs) (hk:KC T w w') (he:e∉T):Rt w' e sz v n xs:=by
  obtain⟨h1,A,c,h2,h3,h4,h5,h6⟩:=h
  refine⟨h1,A,c,h2,h3,h4,h5,fun hn=>?_⟩
  obtain⟨g,o,cur,fr,ha,hg,hc⟩:=h6 hn
  have hg':=hk.same g cur e fr hg he
  refine⟨g,o,cur,fr,ha,hg',fun j u hj=>?_⟩
  rw[cell_of_row w' g _ cur e fr hg',←cell_of_row w g _ cur e fr hg]
  exact hc j u hj
theorem fin_tx {Xs:Nat→Prop} {wo w2:World} {B1 B2:Nat} {t1 t2:TypeId} {u0 u1 u2 u3 z0 z1 z2:Value} (a0 a1 a2 a3 b0 b1 b2:Value) (k1:Bk w2 B1 t1 #[u0,u1,u2,u3]) (k2:Bk w2 B2 t2 #[z0,z1,z2]) (hne:B1≠B2) (hx:XG Xs wo w2) (h1:Xs B1) (h2:Xs B2) (T:List TypeId) (hk:KC T wo w2) (ht1:t1∈T) (ht2:t2∈T) :
    ∀W5,W5=((((((w2.setCell ⟨B1,0,none⟩ a0).setCell ⟨B1,1,none⟩ a1).setCell ⟨B1,2,none⟩ a2).setCell ⟨B1,3,none⟩ a3).setCell ⟨B2,0,none⟩ b0).setCell ⟨B2,1,none⟩ b1).setCell ⟨B2,2,none⟩ b2 →
     Bk W5 B1 t1 #[a0,a1,a2,a3]∧Bk W5 B2 t2 #[b0,b1,b2]∧XG Xs wo W5∧KC T wo W5∧(∀{e:TypeId} {n:Nat} {v:Value} {xs:List Value},Rt w2 e 2 v n xs→e≠t1→e≠t2→Rt W5 e 2 v n xs)∧(∀g t cs,Bk w2 g t cs→g≠B1→g≠B2→Bk W5 g t cs):=by
  rintro W5 rfl
  have hne':B2≠B1:=fun h=>hne h.symm
  have e0:=(((k2.far (p:=⟨B1,0,none⟩) hne' a0).far (p:=⟨B1,1,none⟩) hne' a1).far (p:=⟨B1,2,none⟩) hne' a2).far (p:=⟨B1,3,none⟩) hne' a3
  have d0:=(((k1.set 0 a0).set 1 a1).set 2 a2)
  refine⟨((((((k1.set 0 a0).set 1 a1).set 2 a2).set 3 a3).far (p:=⟨B2,0,none⟩) hne b0).far (p:=⟨B2,1,none⟩) hne b1).far (p:=⟨B2,2,none⟩) hne b2,?_,?_,?_,?_,?_⟩
  ·exact(((((((k2.far (p:=⟨B1,0,none⟩) hne' a0).far (p:=⟨B1,1,none⟩) hne' a1).far (p:=⟨B1,2,none⟩) hne' a2).far (p:=⟨B1,3,none⟩) hne' a3).set 0 b0).set 1 b1).set 2 b2)
  ·exact((((((hx.set (.inl h1) 0 _).set (.inl h1) 1 _).set (.inl h1) 2 _).set (.inl h1) 3 _).set (.inl h2) 0 _).set (.inl h2) 1 _).set (.inl h2) 2 _
  ·exact((((((hk.set k1 ht1 0 a0).set (k1.set 0 a0) ht1 1 a1).set ((k1.set 0 a0).set 1 a1) ht1 2 a2).set d0 ht1 3 a3).set e0 ht2 0 b0).set (e0.set 0 b0) ht2 1 b1).set ((e0.set 0 b0).set 1 b1) ht2 2 b2
  ·intro e n v xs hr g1 g2
   have ka:=((((k2.far (p:=⟨B1,0,none⟩) hne' a0).far (p:=⟨B1,1,none⟩) hne' a1).far (p:=⟨B1,2,none⟩) hne' a2).far (p:=⟨B1,3,none⟩) hne' a3)
   have ha:=hr.keep (grown_set (grown_set (grown_set (grown_set (grown_refl w2 (some B1)) 0 a0) 1 a1) 2 a2) 3 a3) (k1.row g1)
   exact ha.keep (grown_set (grown_set (grown_set (grown_refl _ (some B2)) 0 b0) 1 b1) 2 b2) (ka.row g2)
  ·intro g t cs h n1 n2
   exact((((((h.far (p:=⟨B1,0,none⟩) n1 _).far (p:=⟨B1,1,none⟩) n1 _).far (p:=⟨B1,2,none⟩) n1 _).far (p:=⟨B1,3,none⟩) n1 _).far (p:=⟨B2,0,none⟩) n2 _).far (p:=⟨B2,1,none⟩) n2 _).far (p:=⟨B2,2,none⟩) n2 _
set_option maxHeartbeats 4000000 in
theorem each9_in (n l' Bn:Nat) (l:List UInt8) (J Jx:(Nat→Prop)→List TV→World→Prop) (hl:l.length≤900) (hF:FitsT TI J)
    (hY:∀X pre x W,J X pre W→St9 l (pre++[x])→Dy9 x W→∀m,YieldAt Fence.wide m Tryz.prog l' (encT x) W fun e W'=>
      (e=.returned (.bool true)∧J X (pre++[x]) W'∧KC TL W W'∧∀k,X k→W'.heap[k]? = W.heap[k]?)∨(e=.returned (.bool false)∧Jx X (pre++[x]) W'∧KC TL W W'∧∀k,X k→W'.heap[k]? = W.heap[k]?))
    (W:World) (hBn:Bk W Bn 9 #[.string ⟨l.toArray⟩]) (h0:J (fun _=>False) [] W) :
    CallsIn Fence.wide n Tryz.prog 54 #[.func (.yield l') #[] #[],.pointer (some ⟨Bn,0,none⟩)] W fun e W'=>(∃v,e=.returned v) ∧
      ((∃ys X,Sx9 l ys∧J X ys W')∨(∃pre X,True∧Jx X pre W')):=by
  have HK:=Lib.hid (And.intro hF (And.intro hY (And.intro hBn h0)))
  have y0:W.cell? ⟨Bn,0,none⟩=some (.string ⟨l.toArray⟩):=by rw[hBn.cell];rfl
  have hlt:=hBn.lt
  clear hF hY hBn h0
  refine callsIn_of_wp Tryz.func54 rfl trivial ?_ rfl
  simp only[Tryz.ntmps54,List.size_toArray,List.length_cons,List.length_nil,Nat.reduceAdd,Nat.reduceSub,Array.replicate_succ,Array.replicate_zero,List.push_toArray,List.append_toArray,List.nil_append,List.cons_append]
  gi_wp2_with fail
  gi_loopw [5] (fun i wr=>∃(x:Nat) (pre:List TV) (X:Lx) (v:Value) (Xs:Nat→Prop) (a b c d:Value),x≤l.length∧i=.int .i64 x∧prs pre++pairA l x X=pairA l 0 lx0∧X.pd.length≤x∧J Xs pre wr∧Xs W.heap.size∧Xs (W.heap.size+1) ∧
      Bk wr W.heap.size 47 #[.int .i64 X.aw,v,.bool X.bd]∧Bk wr (W.heap.size+1) 69 #[a,b,c,d]∧Rt wr 94 2 v X.pd.length (dcls X.pd)∧Bk wr Bn 9 #[.string ⟨l.toArray⟩]) (fun i _=>l.length-(intOf i).toNat)
  case atStart=>
    have hb:Below W.heap.size W ((W.alloc (.cells #[.int .i64 0,.slice none 0 0,.bool false] 47)).alloc (.cells #[.int .i64 0,.int .i64 0,.int .i64 0,.bool false] 69)):=((Below.refl _ W).alloc (Nat.le_refl _) _).alloc (by simp) _
    refine⟨0,[],lx0,.slice none 0 0,xNew (fun _=>False) W _,_,_,_,_,Nat.zero_le _,rfl,rfl,Nat.le_refl _,HK.out.1 _ _ _ _ HK.out.2.2.2 (XG.of_below hb) (KC.of_below hb),.inr ⟨Nat.le_refl _,by simp<;>omega⟩,.inr ⟨by omega,by simp⟩,(Bk.new W _ _).alloc _,bk_second W _ _ _ _,Rt.nil _ _ _,HK.out.2.2.1.below hb hlt⟩
  case round=>
    obtain⟨x,pre,X,v,Xs,a,b,c,d,hx,rfl,hpr,hpd,hJ,hX0,hX1,k0,k1,hr,kB⟩:=hrel
    obtain⟨A,cp,rfl⟩:=hr.form
    have y0:wr.cell? ⟨Bn,0,none⟩=some (.string ⟨l.toArray⟩):=by rw[kB.cell];rfl
    obtain⟨p0,p1,p2,p3,p4,p5⟩:=k0.three
    obtain⟨q0,q1,q2,q3,q4,q5,q6,q7⟩:=k1.four
    by_cases hxl:x<l.length
    ·have u1:(x:Int)<(l.length:Int):=by omega
     have hpd2:X.pd.length≤10000:=by omega
     have HR:=Lib.hid (And.intro hpr (And.intro hpd (And.intro hJ (And.intro hX0 (And.intro hX1 (And.intro k0 (And.intro k1 (And.intro hr kB))))))))
     have hB0:=k0.lt
     have hB1:=k1.lt
     have hBn:=kB.lt
     obtain⟨S,hS⟩:∃S,S=stepL l x X:=⟨_,rfl⟩
     have hstep:Calls Tryz.prog 55 #[.string ⟨l.toArray⟩,.int .i64 (x:Int),.agg #[.int .i64 X.aw,.slice A X.pd.length cp,.bool X.bd]] wr fun e w'=>∃v,e=.returned (.tuple #[tkv S.1,v])∧LxP w' S.2 v∧Below wr.heap.size wr w':=by
       rw[hS];exact step9_m l x X A _ cp wr hl hxl rfl hr hpd2
     have HS:=Lib.hid (And.intro hS hstep)
     clear hpr hpd hJ hX0 hX1 k0 k1 hr kB hS hstep
     obtain⟨wo,rfl⟩:∃wo:World,wo=wr:=⟨_,rfl⟩
     gi_wp2_with fail
     rename_i K1 hK1 K0 hK0
     have HKK:=Lib.hid hK0
     have HK1:=Lib.hid hK1
     clear hK0 hK1
     refine⟨trivial,fun h=>by simp[Fence.wide] at h,?_⟩
     refine(callsIn_wide.2 HS.out.2).mono ?_
     rintro e w2 ⟨v2,rfl,⟨v1,rfl,hr2⟩,hb2⟩
     obtain⟨A1,c1,rfl⟩:=hr2.form
     unfold tkv lxv
     have k0:=HR.out.2.2.2.2.2.1.below hb2 hB0
     have k1:=HR.out.2.2.2.2.2.2.1.below hb2 hB1
     obtain⟨p0,p1,p2,p3,p4,p5⟩:=k0.three
     obtain⟨q0,q1,q2,q3,q4,q5,q6,q7⟩:=k1.four
     have H2:=Lib.hid (And.intro hr2 (And.intro hb2 (And.intro k0 k1)))
     clear hr2 hb2 k0 k1
     gi_wp2_with fail
     refine HKK.out _ _ ?_
     gi_wp2_with fail
     have hS:=HS.out.1
     obtain⟨m1,m2,mx,mkc,mr,mb⟩:=fin_tx (Xs:=Xs) (wo:=wo) (.int .i64 (S.1.kd:Int)) (.int .i64 (S.1.fr:Int)) (.int .i64 (S.1.to:Int)) (.bool S.1.op) (.int .i64 S.2.aw) (.slice A1 S.2.pd.length c1) (.bool S.2.bd) H2.out.2.2.2 H2.out.2.2.1 (by omega) (XG.of_below H2.out.2.1) HR.out.2.2.2.2.1 HR.out.2.2.2.1 TI (KC.of_below H2.out.2.1) (by decide) (by decide) _ rfl
     have mrt:=mr H2.out.1 (by decide) (by decide)
     have mB:=mb Bn _ _ (HR.out.2.2.2.2.2.2.2.2.below H2.out.2.1 hBn) (by omega) (by omega)
     generalize World.setCell _ _ _=W5 at m1 m2 mx mkc mr mb mrt mB ⊢
     have mJ:=HK.out.1 _ _ _ _ HR.out.2.2.1 mx mkc
     have hpa:prs pre++S::pairA l S.1.to S.2=pairA l 0 lx0:=by
       rw[hS,←HR.out.1,pairA_eq l x X,if_pos hxl]
     obtain⟨fn,tmps,assign,body,hy,hR⟩:=HK.out.2.1 _ pre ⟨S.1,S.2,.slice A1 S.2.pd.length c1⟩ W5 mJ (by
       unfold St9;rw[←hpa];exact⟨pairA l S.1.to S.2,by simp[prs]⟩) mrt (n-1)
     have hR2:=Lib.hid hR
     clear hR
     simp only[encT] at hy
     have hy2:=Lib.hid hy
     clear hy
     have hto:=stepL_to l x hxl X
     have hpdS:S.2.pd.length≤S.1.to:=by
       have:=step_pd l x X
       rw[←hS] at this hto
       have:=HR.out.2.1
       omega
     rw[←hS] at hto
     obtain⟨p0,p1,p2,p3,p4,p5⟩:=m2.three
     obtain⟨q0,q1,q2,q3,q4,q5,q6,q7⟩:=m1.four
     have H5:=Lib.hid (And.intro m1 (And.intro m2 (And.intro mrt mB)))
     clear m1 m2 mx mkc mr mb mrt mB mJ
     have HP:=Lib.hid (And.intro hpa (And.intro hto hpdS))
     clear hS hpa hpdS hto
     refine HK1.out _ _ ?_
     gi_wp2_with fail
     rw[hy2.out]
     gi_wp2_with fail
     refine⟨fun h=>by simp[Fence.wide] at h,?_⟩
     refine hR2.out.mono ?_
     rintro e W3 (⟨rfl,hJ3,hk3,hx3⟩|⟨rfl,hJx3,hk3,hx3⟩)
     ·have k1:Bk W3 (W.heap.size+1) _ _:=(hx3 _ (.inl HR.out.2.2.2.2.1)).trans H5.out.1
      have k0:Bk W3 W.heap.size _ _:=(hx3 _ (.inl HR.out.2.2.2.1)).trans H5.out.2.1
      have kr:=H5.out.2.2.1.kc hk3 (by decide)
      have kB:Bk W3 Bn _ _:=hk3.same _ _ _ _ H5.out.2.2.2 (by decide)
      obtain⟨p0,p1,p2,p3,p4,p5⟩:=k0.three
      obtain⟨q0,q1,q2,q3,q4,q5,q6,q7⟩:=k1.four
      have H3:=Lib.hid (And.intro hJ3 (And.intro k0 (And.intro k1 (And.intro kr kB))))
      clear hJ3 hk3 hx3 k0 k1 kr kB
      gi_wp2
      have ht:=HP.out.2.1
      refine⟨⟨S.1.to,_,S.2,_,_,_,_,_,_,ht.2.2.1,rfl,?_,HP.out.2.2,H3.out.1,.inl HR.out.2.2.2.1,.inl HR.out.2.2.2.2.1,H3.out.2.1,H3.out.2.2.1,H3.out.2.2.2.1,H3.out.2.2.2.2⟩,by simp[intOf];omega⟩
      rw[←HP.out.1];simp[prs]
     ·have H3:=Lib.hid hJx3
      clear hJx3 hk3 hx3
      gi_wp2
      refine bodyPost_ret (results_none rfl _ _ _) rfl ?_
      exact⟨⟨_,rfl⟩,.inr ⟨_,_,trivial,H3.out⟩⟩
    ·have HR:=Lib.hid (And.intro hpr hJ)
     have u1:¬(x:Int)<(l.length:Int):=by omega
     clear hpr hpd hJ hX0 hX1 k0 k1 hr kB
     gi_wp2
     go_end0
     refine⟨⟨_,rfl⟩,.inl ⟨pre,?_,Xs,HR.out.2⟩⟩
     have:=HR.out.1
     rw[pairA_eq,if_neg hxl,List.append_nil] at this
     exact this
theorem each9_p (l:List UInt8) (w:World) :
    Calls Tryz.prog 34 #[.string ⟨l.toArray⟩] w fun e w'=>e=.returned (.func (.func 54) #[] #[.pointer (some ⟨w.heap.size,0,none⟩)])∧w'=w.alloc (.cells #[.string ⟨l.toArray⟩] 9):=by
  go_enter Tryz.func34,Tryz.ntmps34
  go_wp2
  go_ret
  exact⟨rfl,rfl⟩
theorem each9_y (Bn:Nat) (l:List UInt8) (w:World) (hl:l.length≤900) (hBn:Bk w Bn 9 #[.string ⟨l.toArray⟩]) :
    SeqY TI Tryz.prog 54 #[.pointer (some ⟨Bn,0,none⟩)] encT (KC TL) (Sx9 l) (fun _=>True) (St9 l) Dy9 w:=fun n l' J Jx W hW hF hFx hY h0=>
  each9_in n l' Bn l J Jx hl hF hY W (hBn.below hW hBn.lt) h0
end Go.Proofs.YtlbfdbinaekjoaaGreatDoor
namespace Go.Proofs.YtlbfdbinaekjoaaGreatDoor
open Go.RowKit
set_option linter.unusedVariables false
set_option linter.unusedSimpArgs false
set_option maxRecDepth 100000
attribute [local go_sem] Oper.semAt_some
def tkc (t:Tk):List Value:=[.int .i64 (t.kd:Int),.int .i64 (t.fr:Int),.int .i64 (t.to:Int),.bool t.op]
def tkcs (ts:List Tk):List Value:=ts.flatMap tkc
theorem tkcs_app (a b:List Tk):tkcs (a++b)=tkcs a++tkcs b:=by simp[tkcs]
theorem one_tk (x:Tk):∀u∈tkcs [x],u.oneCell'=true:=by
  intro u hu
  simp[tkcs,tkc] at hu
  rcases hu with rfl|rfl|rfl|rfl<;>rfl
theorem Tryz.infoToken:(Tryz.prog.info? 69).map (fun i=>(i.zero,i.size,i.bytes))=some (some (.agg #[.int .i64 0,.int .i64 0,.int .i64 0,.bool false]),4,32):=by kernel_rfl
def tks (pre:List TV):List Tk:=pre.map TV.t
theorem tks_snoc (pre:List TV) (x:TV):tks (pre++[x])=tks pre++[x.t]:=by simp[tks]
def lastX (pre:List TV):Lx:=pre.foldl (fun _ x=>x.X) lx0
theorem lastX_snoc (pre:List TV) (x:TV):lastX (pre++[x])=x.X:=by unfold lastX;rw[List.foldl_append];rfl
theorem pairF_lex (l:List UInt8):∀(m x:Nat) (X:Lx),(lexF l m x X).1=(pairF l m x X).map Prod.fst∧(lexF l m x X).2=(pairF l m x X).foldl (fun _ p=>p.2) X
  | 0,x,X=>⟨rfl,rfl⟩
  | m+1,x,X=>by
    unfold lexF pairF
    by_cases hx:x<l.length
    ·obtain⟨h1,h2⟩:=pairF_lex l m (stepL l x X).1.to (stepL l x X).2
     simp only[hx,if_true]
     exact⟨by simp[h1],by rw[h2];rfl⟩
    ·simp only[hx,if_false]
     exact⟨rfl,rfl⟩
theorem lex_of (l:List UInt8) (ys:List TV) (h:Sx9 l ys):lexL l=(tks ys,lastX ys):=by
  have h1:=pairF_lex l (l.length+1) 0 lx0
  have h2:pairF l (l.length+1) 0 lx0=prs ys:=h.symm
  rw[h2] at h1
  refine Prod.ext ?_ ?_
  ·show (lexF l _ 0 lx0).1=_
   rw[h1.1];simp[prs,tks]
  ·show (lexF l _ 0 lx0).2=_
   rw[h1.2]
   unfold prs lastX
   rw[List.foldl_map]
theorem pairF_len (l:List UInt8):∀(m x:Nat) (X:Lx),(pairF l m x X).length≤m
  | 0,x,X=>Nat.le_refl _
  | m+1,x,X=>by
    unfold pairF
    split
    ·have:=pairF_len l m (stepL l x X).1.to (stepL l x X).2;simp;omega
    ·simp
theorem St9.len {l:List UInt8} {pre:List TV} (h:St9 l pre):pre.length≤l.length+1:=by
  have h1:=h.length_le
  have h2:=pairF_len l (l.length+1) 0 lx0
  have h3:(prs pre).length=pre.length:=by simp[prs]
  rw[h3] at h1
  exact Nat.le_trans h1 h2
structure Lb (bx:Nat) (Y:Lx) (X:Nat→Prop) (W:World):Prop where
  bk:∃v,Bk W bx 47 #[.int .i64 Y.aw,v,.bool Y.bd]∧Rt W 94 2 v Y.pd.length (dcls Y.pd)
  nx:¬X bx
theorem Rt.grownX {W W':World} {e:TypeId} {sz n:Nat} {v:Value} {xs:List Value} (h:Rt W e sz v n xs) {row:Option Nat} (hg:W.grownBy W' row) (hr:∀k,row=some k→∃o,W.heap[k]? = some o∧o.isCells=false):Rt W' e sz v n xs:=by
  obtain⟨h1,A,c,h2,h3,h4,h5,h6⟩:=h
  refine⟨h1,A,c,h2,h3,h4,h5,fun hn=>?_⟩
  obtain⟨g,o,cur,fr,ha,hh,hc⟩:=h6 hn
  have hg':W'.heap[g]? = some (.cells cur e fr):=(hg.block g (Array.getElem?_eq_some_iff.1 hh).1 (fun he=>by
    obtain⟨o,ho,hc⟩:=hr g he.symm
    rw[hh] at ho
    cases ho
    cases hc)).trans hh
  refine⟨g,o,cur,fr,ha,hg',fun j u hj=>?_⟩
  rw[cell_of_row W' g _ cur e fr hg',←cell_of_row W g _ cur e fr hh]
  exact hc j u hj
theorem Lb.grown {bx:Nat} {Y:Lx} {X:Nat→Prop} {W W':World} (h:Lb bx Y X W) {row:Option Nat} (hg:W.grownBy W' row) (hr:∀k,row=some k→∃o,W.heap[k]? = some o∧o.isCells=false):Lb bx Y X W':=by
  obtain⟨⟨v,h1,h2⟩,h3⟩:=h
  refine⟨⟨v,h1.grown hg (fun e=>?_),h2.grownX hg hr⟩,h3⟩
  obtain⟨o,ho,hc⟩:=hr _ e.symm
  rw[show W.heap[bx]? = _ from h1] at ho
  cases ho
  cases hc
theorem Lb.fits {bx:Nat} {X:Nat→Prop} {Y:Lx} {A B:World} (h:Lb bx Y X A) (hx:XG X A B) (hk:KC TI A B):Lb bx Y (xNew X A B) B:=by
  obtain⟨⟨v,h1,h2⟩,h3⟩:=h
  refine⟨⟨v,(hx.block _ h1.lt h3).trans h1,h2.kc hk (by decide)⟩,?_⟩
  rintro (h|h)
  ·exact h3 h
  ·have:=h1.lt;omega
theorem Lb.next {bx:Nat} {Y:Lx} {X:Nat→Prop} {W W':World} (h:Lb bx Y X W) (hb:Below W.heap.size W W'):Lb bx Y X W':=by
  obtain⟨⟨v,h1,h2⟩,h3⟩:=h
  exact⟨⟨v,h1.below hb h1.lt,h2.next hb⟩,h3⟩
theorem uponIn_append {F:Fence} {m0:Nat} {P:Program} {o:Oper} {a:Act} {K:Act→World→Prop} {Q:Exit→Act→World→Prop} {w:World} {t ty:TypeId} {base:Nat} {e:TypeId} {i:TypeInfo} {z:Value} {size bytes:Nat} (ht:P.underlying t=some (.slice e)) (hi:P.info? e=some i) (hz:i.zero=some z)
    (hsize:i.size=size) (hby:i.bytes=bytes) (hzs:z.cells.size=size) (hsz:0<size) {v:Value} {n:Nat} {xs:List Value} (hown:w.ownsRow base e size v n xs)
    {x:Value} {m B:Nat} {news:List Value} (hr:Rd w B size x m news) (h1:∀u∈news,u.oneCell'=true)
    (h63:n+m≤maxLen) (hbytes:(n+m)*bytes≤140737488355328) (hbase:base≤w.heap.size)
    (h:∀v' w',w'.ownsRow base e size v' (n+m) (xs++news)→w.grownBy w' v.ownBlock→(v'.ownBlock=v.ownBlock∨v'.ownBlock=some w.heap.size)→K (a.put o.dst v') w') :
    Oper.uponIn F m0 P o a K Q ((Sem.run P (Builtin.append_ #[t,t] ty #[v,x]) w).andThen fun a w'=>Result.ok (Next.value a) w'):=by
  obtain⟨v',w',hrun,h2,h3,h4⟩:=run_append_rd w base t ty e i z size bytes ht hi hz hsize hby hzs hsz v n xs hown x m B news hr h1 h63 hbytes hbase
  rw[show Sem.run P (Builtin.append_ #[t,t] ty #[v,x]) w=.ok v' w' from hrun]
  exact h v' w' h2 h3 h4
theorem Bk.overrow {w w':World} {base e size n g:Nat} {t:TypeId} {cs:Array Value} {v:Value} {xs:List Value} (h:Bk w g t cs) (ho:w.ownsRow base e size v n xs) (hg:w.grownBy w' v.ownBlock) (hne:e≠t):Bk w' g t cs:=
  h.grown hg (fun he=>own_ne ho h hne he.symm)
theorem fin_lx9 {w W w3:World} {N:Nat} {X:Nat→Prop} {pre:List TV} {xt:Tk} {xX:Lx} {v v3 vn:Value} (hN:N=w.heap.size+4) (hv:Boxed W (w.heap.size+1) 44 v) (hrow:W.ownsRow N 69 4 v (tks pre).length (tkcs (tks pre))) (hnx:¬X (w.heap.size+1)∧∀k,v.ownBlock=some k→¬X k)
    (hB:Below w.heap.size w W) (hS:N≤W.heap.size) (hxb:∀k,X k→w.heap.size≤k∧k<W.heap.size) (hR:Lb w.heap.size lx0 X W) (hL:Lb (w.heap.size+1+1) (lastX pre) X W) (hrt:Rt W 94 2 vn xX.pd.length (dcls xX.pd))
    (hg:(W.alloc (.cells (tkcs [xt]).toArray 69)).drew.grownBy w3 v.ownBlock) (hown:w3.ownsRow N 69 4 v3 ((tks pre).length+1) (tkcs (tks pre)++tkcs [xt])) (hv3:v3.ownBlock=v.ownBlock∨v3.ownBlock=some (W.alloc (.cells (tkcs [xt]).toArray 69)).drew.heap.size) :
    ∀W5,W5=((((w3.setCell ⟨w.heap.size+1,0,none⟩ v3).setCell ⟨w.heap.size+1+1,0,none⟩ (.int .i64 xX.aw)).setCell ⟨w.heap.size+1+1,1,none⟩ vn).setCell ⟨w.heap.size+1+1,2,none⟩ (.bool xX.bd)) →
     KeepsFrom N W W5∧KC TL W W5∧(∀k,X k→W5.heap[k]? = W.heap[k]?)∧Cb w.heap.size N (w.heap.size+1) 44 69 4 w (tks (pre++[⟨xt,xX,vn⟩])).length (tkcs (tks (pre++[⟨xt,xX,vn⟩]))) X W5∧Lb w.heap.size lx0 X W5∧Lb (w.heap.size+1+1) (lastX (pre++[⟨xt,xX,vn⟩])) X W5:=by
  rw[tks_snoc,lastX_snoc,tkcs_app,List.length_append]
  obtain⟨W1,hW1⟩:∃W1,W1=(W.alloc (.cells (tkcs [xt]).toArray 69)).drew:=⟨_,rfl⟩
  have hb1:Below W.heap.size W W1:=by rw[hW1];exact(Below.alloc (Below.refl _ _) (Nat.le_refl _) _).drew
  have hrow1:W1.ownsRow N 69 4 v (tks pre).length (tkcs (tks pre)):=by rw[hW1];exact hrow.alloc _
  rw[←hW1] at hg hv3
  clear hW1
  obtain⟨a1,a2,a3,a4⟩:=Cb.app (M:=N) (n₀:=w.heap.size) (Xc:=fun _=>False) hv hrow hnx hB hS hxb (by decide) (by omega) (by omega) (Nat.le_refl _) (Nat.le_refl _) hb1 hg hown hv3
  have kv3:Bk w3 (w.heap.size+1) 44 #[v]:=Bk.overrow (Bk.below hv hb1 (Boxed.lt hv)) hrow1 hg (by decide)
  have hkc:KC TL W (w3.setCell ⟨w.heap.size+1,0,none⟩ v3):=((KC.of_below hb1).grown hg (fun k hk=>by
    obtain⟨cs,t,fr,q1,q2⟩:=own_blk hrow1 k hk
    exact⟨cs,t,fr,q1,by rw[q2];decide⟩)).set kv3 (by decide) _ _
  have trs:∀{n:Nat} {u:Value} {xs:List Value},Rt W 94 2 u n xs→Rt (w3.setCell ⟨w.heap.size+1,0,none⟩ v3) 94 2 u n xs:=fun h=>h.kc hkc (by decide)
  have trb:∀g cs,Bk W g 47 cs→g≠w.heap.size+1→Bk (w3.setCell ⟨w.heap.size+1,0,none⟩ v3) g 47 cs:=fun g cs h hne=>(Bk.overrow (h.below hb1 h.lt) hrow1 hg (by decide)).far (p:=⟨w.heap.size+1,0,none⟩) hne _
  obtain⟨⟨vl,kl,rl⟩,nl⟩:=hL
  obtain⟨⟨vr,kr,rr⟩,nr⟩:=hR
  have kl6:=trb _ _ kl (by omega)
  have kr6:=trb _ _ kr (by omega)
  have rr6:=trs rr
  have rn6:=trs hrt
  generalize w3.setCell ⟨w.heap.size+1,0,none⟩ v3=W6 at a1 a2 a3 a4 hkc kl6 kr6 rr6 rn6 ⊢
  clear trs trb
  rintro W5 rfl
  have hgs:=grown_set (grown_set (grown_set (grown_refl W6 (some (w.heap.size+1+1))) 0 (.int .i64 xX.aw)) 1 vn) 2 (.bool xX.bd)
  have kc5:=(((hkc.set kl6 (by decide) 0 (.int .i64 xX.aw)).set (kl6.set 0 _) (by decide) 1 vn).set ((kl6.set 0 _).set 1 _) (by decide) 2 (.bool xX.bd))
  have kl7:=((kl6.set 0 (.int .i64 xX.aw)).set 1 vn).set 2 (.bool xX.bd)
  have rr7:=rr6.keep hgs (kl6.row (by decide))
  have rn7:=rn6.keep hgs (kl6.row (by decide))
  generalize ((W6.setCell ⟨w.heap.size+1+1,0,none⟩ (.int .i64 xX.aw)).setCell ⟨w.heap.size+1+1,1,none⟩ vn).setCell ⟨w.heap.size+1+1,2,none⟩ (.bool xX.bd)=W5 at hgs kc5 kl7 rr7 rn7 ⊢
  have same:∀k,k<W6.heap.size→k≠w.heap.size+1+1→W5.heap[k]? = W6.heap[k]? := fun k hk hne=>hgs.block k hk (fun e=>hne (by injection e))
  obtain⟨⟨v',b1,b2,b3⟩,b4,b5,b6⟩:=a4
  refine⟨⟨Nat.le_trans a1.size hgs.size,fun k o h1 h2 h3=>?_⟩,kc5,fun k hk=>?_,⟨⟨v',(same _ (Boxed.lt b1) (by omega)).trans b1,b2.kept hgs (.inr (own_ne b2 kl6 (by decide))),b3⟩,b4.grown hgs b4.size (fun k hk=>by injection hk with hk;omega),Nat.le_trans b5 hgs.size,fun k hk=>⟨(b6 k hk).1,Nat.lt_of_lt_of_le (b6 k hk).2 hgs.size⟩⟩,⟨⟨vr,(same _ kr6.lt (by omega)).trans kr6,rr7⟩,nr⟩,⟨⟨vn,kl7,rn7⟩,nl⟩⟩
  ·have h9:=a1.same k o h1 h2 h3
   exact(same k (Array.getElem?_eq_some_iff.1 h9).1 (by omega)).trans h9
  ·have h9:=b6 k hk
   exact(same k h9.2 (fun e=>nl (e▸hk))).trans (a3 k hk)
theorem dn_lx9 {w W:World} {N D n k:Nat} {v vl a0 a1 a2 z0 z1 z2:Value} {xs ds:List Value} (hN:N=w.heap.size+4) (hD:N≤D) (hrow:W.ownsRow N 69 4 v n xs) (hB:Below w.heap.size w W) (kr:Bk W w.heap.size 47 #[z0,z1,z2]) (rl:Rt W 94 2 vl k ds) (hK:W.heap[D]? = some (.deferred (some []))) :
    ∀W5,W5=(((W.setCell ⟨w.heap.size,0,none⟩ a0).setCell ⟨w.heap.size,1,none⟩ a1).setCell ⟨w.heap.size,2,none⟩ a2).drew→W5.heap[D]? = some (.deferred (some [])) ∧
     ∀W6,W6=W5.putObj D (.deferred none)→Bk W6 w.heap.size 47 #[a0,a1,a2]∧W6.ownsRow w.heap.size 69 4 v n xs∧Rt W6 94 2 vl k ds∧Below w.heap.size w W6:=by
  rintro W5 rfl
  have hgs:=grown_set (grown_set (grown_set (grown_refl W (some w.heap.size)) 0 a0) 1 a1) 2 a2
  have kr7:=((kr.set 0 a0).set 1 a1).set 2 a2
  have rl7:=rl.keep hgs (kr.row (by decide))
  have hrow7:=hrow.kept hgs (.inr (own_ne hrow kr (by decide)))
  have hB7:=hB.grown hgs hB.size (fun k hk=>by injection hk with hk;omega)
  have hK7:=(hgs.block D (Array.getElem?_eq_some_iff.1 hK).1 (fun e=>by injection e with e;omega)).trans hK
  generalize ((W.setCell ⟨w.heap.size,0,none⟩ a0).setCell ⟨w.heap.size,1,none⟩ a1).setCell ⟨w.heap.size,2,none⟩ a2=W4 at hgs kr7 rl7 hrow7 hB7 hK7 ⊢
  refine⟨hK7,?_⟩
  rintro W6 rfl
  have hB8:Below w.heap.size w W4.drew:=hB7.drew
  have kr8:Bk W4.drew w.heap.size 47 #[a0,a1,a2]:=kr7
  have rl8:Rt W4.drew 94 2 vl k ds:=rl7
  have hrow8:W4.drew.ownsRow N 69 4 v n xs:=hrow7
  have hK8:W4.drew.heap[D]? = some (.deferred (some [])):=hK7
  generalize W4.drew=W9 at hB8 kr8 rl8 hrow8 hK8 ⊢
  have hbk:=belowK_b (w:=w) (Nat.le_refl _) W9 D (.deferred (some [])) (.deferred none) (by omega) hK8 rfl rfl
  exact⟨(World.putObj_heap_other (by omega)).trans kr8,own_base (hrow8.kept (grownBy_putObj' W9 D (.deferred none)) (.inr (fun e=>by have:=own_not_cells hrow8 e hK8;cases this))) (by omega),rl8.grownX (grownBy_putObj' W9 D (.deferred none)) (fun k hk=>by injection hk with hk;subst hk;exact⟨_,hK8,rfl⟩),hB8.trans hbk⟩
attribute [-go_sem] Builtin.append_
set_option maxHeartbeats 4000000 in
theorem lex_m (l:List UInt8) (w:World) (hl:l.length≤900) :
    Calls Tryz.prog 16 #[.string ⟨l.toArray⟩] w fun e w'=>∃v1 v2,e=.returned (.tuple #[v1,v2])∧w'.ownsRow w.heap.size 69 4 v1 (lexL l).1.length (tkcs (lexL l).1)∧LxP w' (lexL l).2 v2∧Below w.heap.size w w':=by
  obtain⟨i0,hi,hz0,hz1,hz2⟩:=info_parts Tryz.infoToken
  refine(callsIn_wide (n:=5)).1 ?_
  refine callsIn_of_wp_marks Tryz.func16 rfl trivial ?_ rfl
  simp only[Tryz.ntmps16,List.size_toArray,List.length_cons,List.length_nil,Nat.reduceAdd,Nat.reduceSub,Array.replicate_succ,Array.replicate_zero,List.push_toArray,List.append_toArray,List.nil_append,List.cons_append]
  gi_wp2_with (
    (refine⟨trivial,?_⟩
     gi_at_call 34
     refine(callsIn_wide.2 (each9_p l _)).mono ?_
     rintro e w2 ⟨rfl,rfl⟩))
  have s2:∀a b c d,((((w.alloc a).alloc b).alloc c).alloc d).heap.size=w.heap.size+4:=fun a b c d=>by simp
  obtain⟨W0,hW0⟩:∃W0,(((w.alloc (.cells #[.int .i64 0,.slice none 0 0,.bool false] 47)).alloc (.cells #[.slice none 0 0] 44)).alloc (.cells #[.int .i64 0,.slice none 0 0,.bool false] 47)).alloc (.cells #[.string ⟨l.toArray⟩] 9)=W0:=⟨_,rfl⟩
  have hs0:W0.heap.size=w.heap.size+4:=by rw[←hW0];exact s2 _ _ _ _
  have hb0:Below w.heap.size w W0:=by rw[←hW0];exact((((Below.refl _ w).alloc (Nat.le_refl _) _).alloc (by simp) _).alloc (by simp<;>omega) _).alloc (by simp<;>omega) _
  have kR:Bk W0 w.heap.size 47 #[.int .i64 0,.slice none 0 0,.bool false]:=by rw[←hW0];exact(((Bk.new w _ _).alloc _).alloc _).alloc _
  have bO:Boxed W0 (w.heap.size+1) 44 (.slice none 0 0):=by rw[←hW0];exact((bk_second w _ _ _ _).alloc _).alloc _
  have kL:Bk W0 (w.heap.size+1+1) 47 #[.int .i64 0,.slice none 0 0,.bool false]:=by rw[←hW0];exact Bk.alloc (by simpa using Bk.new ((w.alloc _).alloc _) 47 _) _
  have kS:Bk W0 (w.heap.size+1+1+1) 9 #[.string ⟨l.toArray⟩]:=by rw[←hW0];simpa using Bk.new (((w.alloc _).alloc _).alloc _) 9 _
  rw[hW0]
  clear hW0 s2
  have HW:=Lib.hid (And.intro hb0 (And.intro kR (And.intro bO kL)))
  refine rangeFunc_y (Ti:=TI) (by omega) (gf:=54) (lb:=#[.pointer (some ⟨w.heap.size+1+1+1,0,none⟩)]) rfl (enters_of Tryz.func54 (by kernel_rfl) rfl)
    (each9_y (w.heap.size+1+1+1) l W0 hl kS) (fun h k=>h.trans k) (fun W l o o' hl h1 h2 h3=>KC.put W l o o' h1 h2) (Below.refl _ _) (fun _=>rfl)
    (fun X pre W=>Cb w.heap.size W0.heap.size (w.heap.size+1) 44 69 4 w (tks pre).length (tkcs (tks pre)) X W∧Lb w.heap.size lx0 X W∧Lb (w.heap.size+1+1) (lastX pre) X W)
    (fun _ _ _ _=>False)
    ?fits (fun _ _ _ _ _ h _ _=>h) ?own (fun _ _ _ _ _ _ h _ _=>h)
    ⟨⟨⟨_,bO,World.ownsRow_nil _ _ _ _,fun h=>h,fun _ _ h=>h⟩,hb0,Nat.le_refl _,fun _ h=>h.elim⟩,⟨⟨_,kR,Rt.nil _ _ _⟩,fun h=>h⟩,⟨⟨_,kL,Rt.nil _ _ _⟩,fun h=>h⟩⟩
    (fun x a' W=>Rt W 94 2 x.v x.X.pd.length (dcls x.X.pd)∧∃b1 b2,Bk W b1 69 (tkc x.t).toArray∧Bk W b2 47 #[.int .i64 x.X.aw,x.v,.bool x.X.bd]∧a'={tmps:=#[.string ⟨l.toArray⟩,undef,.slice none 0 0,.pointer (some ⟨w.heap.size,0,none⟩),.pointer (some ⟨w.heap.size+1,0,none⟩),.pointer (some ⟨w.heap.size+1+1,0,none⟩),.pointer (some ⟨b1,0,none⟩),.pointer (some ⟨b2,0,none⟩),.string ⟨l.toArray⟩,.func (.func 54) #[] #[.pointer (some ⟨w.heap.size+1+1+1,0,none⟩)],.agg #[.int .i64 (x.t.kd:Int),.int .i64 (x.t.fr:Int),.int .i64 (x.t.to:Int),.bool x.t.op],.agg #[.int .i64 x.X.aw,x.v,.bool x.X.bd],undef,undef,undef,undef,undef,undef,undef],defers:=[]})
    ?ownA ?assign ?body ?done ?stop
  case fits=>
    rintro X pre A B ⟨h1,h2,h3⟩ hx hk
    exact⟨Cb.fits (n:=fun pre:List TV=>(tks pre).length) (xs:=fun pre=>tkcs (tks pre)) (by omega) X pre A B h1 hx,h2.fits hx hk,h3.fits hx hk⟩
  case own=>
    rintro X pre W W' row ⟨h1,h2,h3⟩ hg hr
    exact⟨cb_own _ _ _ _ _ _ _ _ _ _ X (by omega) (Nat.le_refl _) () W W' row h1 hg hr,h2.grown hg (fun k hk=>(hr k hk).2),h3.grown hg (fun k hk=>(hr k hk).2)⟩
  case ownA=>
    rintro x a' s W W' row ⟨h1,b1,b2,h2,h3,rfl⟩ hg hr
    have hB:∀g t cs,Bk W g t cs→Bk W' g t cs:=fun g t cs h=>h.grown hg (fun e=>by
      obtain⟨_,o,ho,hc⟩:=hr _ e.symm
      rw[show W.heap[g]? = _ from h] at ho
      cases ho
      cases hc)
    exact⟨h1.grownX hg (fun k hk=>(hr k hk).2),b1,b2,hB _ _ _ h2,hB _ _ _ h3,rfl⟩
  case assign=>
    rintro l' X pre ⟨xt,xX,xv⟩ W K ⟨hI,hR,hL⟩ hSt hD hK
    replace hD:Rt W 94 2 xv xX.pd.length (dcls xX.pd):=hD
    obtain⟨Av,cv,rfl⟩:=hD.form
    gi_wp2
    have hb:Below W.heap.size W ((W.alloc (.cells (tkc xt).toArray 69)).alloc (.cells #[.int .i64 xX.aw,.slice Av xX.pd.length cv,.bool xX.bd] 47)):=((Below.refl _ W).alloc (Nat.le_refl _) _).alloc (by simp) _
    exact hK _ _ (keepsFrom_below hb) (KC.of_below hb) (fun k hk=>hb.block k (hI.xb k hk).2) ⟨(hI.alloc (Nat.le_refl _) _).alloc (Nat.le_refl _) _,hR.next hb,hL.next hb⟩ ⟨hD.next hb,_,_,(Bk.new W _ _).alloc _,bk_second W _ _ _ _,rfl⟩
  case body=>
    rintro l' X pre x a' W hl1 hl2 ⟨⟨⟨v,hv,hrow,hnx⟩,hB,hS,hxb⟩,hR,⟨⟨vl,kl,rl⟩,hlx⟩⟩ ⟨hrt,b1,b2,k1,k2,rfl⟩ hSt
    have hlen:=hSt.len
    simp only[List.length_append,List.length_singleton] at hlen
    have hpl0:(tks pre).length≤901:=by unfold tks;rw[List.length_map];omega
    obtain⟨xt,xX,xv⟩:=x
    replace hrt:Rt W 94 2 xv xX.pd.length (dcls xX.pd):=hrt
    obtain⟨Av,cv,rfl⟩:=hrt.form
    have hc:=hv.cell
    have hf:=hv.frozen
    obtain⟨q0,q1,q2,q3,q4,q5,q6,q7⟩:=(show Bk W b1 69 #[.int .i64 (xt.kd:Int),.int .i64 (xt.fr:Int),.int .i64 (xt.to:Int),.bool xt.op] from k1).four
    obtain⟨r0,r1,r2,r3,r4,r5⟩:=(show Bk W b2 47 #[.int .i64 xX.aw,.slice Av xX.pd.length cv,.bool xX.bd] from k2).three
    obtain⟨p0,p1,p2,p3,p4,p5⟩:=kl.three
    have hb1:=k1.lt
    have hb2:=k2.lt
    have hb3:=Boxed.lt hv
    have hb4:=kl.lt
    have hne2:¬b2=w.heap.size+1:=fun e=>by
      subst e
      have h9:=(show W.heap[w.heap.size+1]? = _ from k2).symm.trans hv
      injection h9 with h9
      injection h9 with _ h9
      exact absurd h9 (by decide)
    have hne3:¬w.heap.size+1=b2:=fun e=>hne2 e.symm
    gi_wp2_with fail
    have hmix:Tryz.prog.follows .mixedOrders=true:=by kernel_rfl
    refine wpIn_region_any (by assumption) ?_
    change wpAnyIn _ _ _ _ _ _ _ _ _ (World.drew _)
    refine wpAnyIn_ready (rs:=[0,1,4]) (by kernel_rfl) (by simp) ?_
    repeat' (first
      | with_reducible exact AllReadyIn.nil
      | with_reducible refine AllReadyIn.cons rfl (fun K hK=>?_) ?_
      | (revert hK
         intro hK
         go_simp
         first
           | (refine uponIn_append Tryz.underlying44 hi hz0 hz1 hz2 rfl (by decide) (by exact hrow.alloc _) (by exact rd_new W (tkcs [xt]) 69 4 1 rfl (by omega)) (one_tk _) (by unfold maxLen;omega) (by omega) (by simp;omega) ?_
              intro v3 w3 hown3 hg3 hv3
              have kv3:Bk w3 (w.heap.size+1) 44 #[v]:=Bk.overrow (w:=(W.alloc _).drew) (Bk.alloc hv _) (hrow.alloc _) hg3 (by decide)
              have k23:Bk w3 b2 47 #[.int .i64 xX.aw,.slice Av xX.pd.length cv,.bool xX.bd]:=Bk.overrow (w:=(W.alloc _).drew) (Bk.alloc k2 _) (hrow.alloc _) hg3 (by decide)
              have kl3:Bk w3 (w.heap.size+1+1) 47 #[.int .i64 (lastX pre).aw,vl,.bool (lastX pre).bd]:=Bk.overrow (w:=(W.alloc _).drew) (Bk.alloc kl _) (hrow.alloc _) hg3 (by decide)
              have hc3:=Boxed.cell kv3
              have hf3:=Boxed.frozen kv3
              obtain⟨s0,s1,s2,s3,s4,s5⟩:=kl3.three
              obtain⟨t0,t1,t2,t3,t4,t5⟩:=k23.three
              obtain⟨A3,n3,c3,rfl⟩:=own_form' hown3
              have H3:=Lib.hid (And.intro hown3 (And.intro hg3 hv3))
              clear hown3 hg3 hv3 kv3 k23 kl3
              refine hK _ _ ?_
              clear hK K)
           | (refine hK _ _ ?_
              clear hK K))
      | refine wpAnyIn_ready (rs:=[6]) (by decide +kernel) (by simp) ?_
      | refine wpAnyIn_ready (rs:=[5]) (by decide +kernel) (by simp) ?_
      | refine wpAnyIn_ready (rs:=[3]) (by decide +kernel) (by simp) ?_
      | refine wpAnyIn_ready (rs:=[2]) (by decide +kernel) (by simp) ?_
      | refine wpAnyIn_ready (rs:=[3,4]) (by decide +kernel) (by simp) ?_
      | refine wpAnyIn_ready (rs:=[4,5]) (by decide +kernel) (by simp) ?_
      | refine wpAnyIn_ready (rs:=[4]) (by decide +kernel) (by simp) ?_
      | refine wpAnyIn_ready (rs:=[0]) (by decide +kernel) (by simp) ?_
      | refine wpAnyIn_ready (rs:=[2,4]) (by decide +kernel) (by simp) ?_
      | refine wpAnyIn_ready (rs:=[1]) (by decide +kernel) (by simp) ?_
      | refine wpAnyIn_ready (rs:=[0,2]) (by decide +kernel) (by simp) ?_
      | refine wpAnyIn_ready (rs:=[1,4]) (by decide +kernel) (by simp) ?_
      | refine wpAnyIn_ready (rs:=[0,2,4]) (by decide +kernel) (by simp) ?_
      | refine wpAnyIn_ready (rs:=[0,4]) (by decide +kernel) (by simp) ?_
      | refine wpAnyIn_ready (rs:=[0,1]) (by decide +kernel) (by simp) ?_
      | (refine wpAnyIn_done (by decide +kernel) ?_ _
         (obtain⟨o1,o2,o3⟩:=H3.out;exact fin_lx9 hs0 hv hrow hnx hB hS hxb hR ⟨⟨_,kl,rl⟩,hlx⟩ hrt o2 o1 o3 _ rfl)))
  case done=>
    rintro D X ys W hD hys ⟨⟨⟨v,hv,hrow,hnx⟩,hB,hS,hxb⟩,⟨⟨vr,kr,rr⟩,hrx⟩,⟨⟨vl,kl,rl⟩,hlx⟩⟩ hK
    have hlex:=lex_of l ys hys
    obtain⟨Al,cl,rfl⟩:=rl.form
    have hc:=hv.cell
    obtain⟨p0,p1,p2,p3,p4,p5⟩:=kl.three
    obtain⟨s0,s1,s2,s3,s4,s5⟩:=kr.three
    have HZ:=Lib.hid (And.intro hrow (And.intro hB (And.intro kr (And.intro rl (And.intro hK hlex)))))
    clear hrow hB kr rl hK hlex hys hxb rr hv kl
    gi_wp2_with fail
    gi_region
    all_goals gi_wp2_with fail
    all_goals (
      obtain⟨h1,h2,h3,h4,h5,hlex⟩:=HZ.out
      obtain⟨g1,g2⟩:=dn_lx9 (a0:=.int .i64 (lastX ys).aw) (a1:=.slice Al (lastX ys).pd.length cl) (a2:=.bool (lastX ys).bd) hs0 hD h1 h2 h3 h4 h5 _ rfl
      obtain⟨m1,m2,m3,m4⟩:=g2 _ rfl
      obtain⟨u0,u1,u2,_⟩:=m1.three
      rw[hlex]
      refine⟨by simp,.inl ⟨_,_,rfl,run_takeDeferred g1,?_⟩⟩
      exact⟨.tuple #[v,lxv (lastX ys).aw (.slice Al (lastX ys).pd.length cl) (lastX ys).bd],by simp[results,Tryz.results16,go_sem,lxv,u0,u1,u2],⟨_,_,rfl,m2,⟨_,rfl,m3⟩,m4⟩⟩)
  case stop=>
    intro D c X pre W _ _ h _
    exact h.elim
end Go.Proofs.YtlbfdbinaekjoaaGreatDoor
