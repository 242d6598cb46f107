/- Package edit: Diff. -/
import Derived.Test.YtclllfmbldeneaaGreatDoorCn10
import Derived.BigQuiet
namespace Go.Proofs.YtclllfmbldeneaaGreatDoor
open Go.RowKit
set_option linter.unusedVariables false
set_option linter.unusedSimpArgs false
set_option maxRecDepth 100000
theorem diff_ok {p x y c:List UInt8}:okE (p++(x++c)) x (p.length:Int)=true∧newL (p++(x++c)) x y (p.length:Int)=p++(y++c):=okE_of ⟨p,x,y,c⟩
theorem take_eq {l t:List UInt8} {k:Nat} (h:l.take k=t.take k) (h1:k<l.length) (h2:k<t.length) (h3:l.getD k 0=t.getD k 0):l.take (k+1)=t.take (k+1):=by
  rw[List.take_add_one,List.take_add_one,h,List.getElem?_eq_getElem h1,List.getElem?_eq_getElem h2]
  rw[List.getD_eq_getElem?_getD,List.getElem?_eq_getElem h1,List.getD_eq_getElem?_getD,List.getElem?_eq_getElem h2] at h3
  simp at h3
  simp[h3]
theorem snoc_of {x:List UInt8} (h:0<x.length):x=x.take (x.length-1)++[x.getD (x.length-1) 0]:=by
  have h1:x.length-1<x.length:=by omega
  rw[List.getD_eq_getElem?_getD,List.getElem?_eq_getElem h1]
  have h2:=List.take_append_drop (x.length-1) x
  rw[List.drop_eq_getElem_cons h1,List.drop_of_length_le (by omega)] at h2
  exact h2.symm
theorem gen_dd {P:World→Prop} {B:Nat} {W wr:World} (n m:Nat) (hb:Below B W wr) (h:∀W2,Below B W W2→P W2):P ((wr.drewN n).drewN m):=h _ (below_drewN' (below_drewN' hb n) m)
def lenOf:Value→Nat
  | .string b=>b.size
  | _=>0
set_option maxHeartbeats 4000000 in
theorem diff_m (l t:List UInt8) (w:World) (hl:l.length≤100000) (ht:t.length≤100000) :
    Calls Tryz.prog 27 #[.string ⟨l.toArray⟩,.string ⟨t.toArray⟩] w fun e w'=>∃(p x y c:List UInt8),l=p++(x++c)∧t=p++(y++c)∧e=.returned (.agg #[.int .i64 (p.length:Int),.string ⟨x.toArray⟩,.string ⟨y.toArray⟩])∧Below w.heap.size w w':=by
  go_enter Tryz.func27,Tryz.ntmps27
  go_wp2
  refine gen1 fun W hbW kW hsW=>?_
  have HW:=Lib.hid (And.intro hbW kW)
  clear hbW kW hsW
  go_step3
  go_wp2
  go_loopw [5] (fun i wr=>∃k:Nat,k≤l.length∧k≤t.length∧i=.int .i64 (k:Int)∧l.take k=t.take k∧Below W.heap.size W wr) (fun i _=>l.length-(intOf i).toNat)
  case atStart=>exact⟨0,Nat.zero_le _,Nat.zero_le _,rfl,rfl,Below.refl _ _⟩
  case round=>
    obtain⟨k,hk1,hk2,rfl,he,hb⟩:=hrel
    have HB:=Lib.hid (And.intro he hb)
    clear he hb
    have key:(decide (k<l.length)=true∧decide (k<t.length)=true∧∃(c d:UInt8) (g1:k<(ByteArray.mk l.toArray).size) (g2:k<(ByteArray.mk t.toArray).size),(ByteArray.mk l.toArray)[k]'g1=c∧(ByteArray.mk t.toArray)[k]'g2=d∧c=l.getD k 0∧d=t.getD k 0)∨(decide (k<l.length)=true∧decide (k<t.length)=false)∨(decide (k<l.length)=false):=by
      by_cases h1:k<l.length
      ·by_cases h2:k<t.length
       ·obtain⟨g1,g2⟩:=ba_at l k h1
        obtain⟨g3,g4⟩:=ba_at t k h2
        exact .inl ⟨decide_eq_true h1,decide_eq_true h2,_,_,g1,g3,g2,g4,rfl,rfl⟩
       ·exact .inr (.inl ⟨decide_eq_true h1,decide_eq_false h2⟩)
      ·exact .inr (.inr (decide_eq_false h1))
    have u3:(0:Int)≤(k:Int):=by omega
    have v1:(k:Int)≤(l.length:Int):=by omega
    have v2:(k:Int)≤(t.length:Int):=by omega
    rcases key with ⟨d1,d2,c,d,g1,g2,g3,g4,g5,g6⟩|⟨d1,d2⟩|d1
    case' inl=>
      have u1:(k:Int)<(l.length:Int):=by have:=of_decide_eq_true d1;omega
      have u2:(k:Int)<(t.length:Int):=by have:=of_decide_eq_true d2;omega
      have HG:=Lib.hid (And.intro g5 g6)
      clear g5 g6
      cases hq:((c.toNat:Int)==(d.toNat:Int))
      case' true=>
        go_wp2_with fail
        go_quiet (fail)
        go_wp2_with fail
        refine⟨⟨k+1,by omega,by omega,by go_num,take_eq HB.out.1 (by omega) (by omega) ?_,below_drewN' HB.out.2 _⟩,by simp[intOf]<;>omega⟩
        rw[←HG.out.1,←HG.out.2]
        have hq2:c.toNat=d.toNat:=by rw[beq_iff_eq] at hq;omega
        exact UInt8.toNat_inj.1 hq2
    all_goals (
      go_wp2_with fail
      go_quiet (fail)
      go_wp2_with fail
      go_quiet (fail)
      refine gen_dd (P:=fun W'=>Exit.then _ _ Exit.normal _ W') _ _ HB.out.2 (fun W2 hb2=>?_)
      have HE:=Lib.hid (And.intro HB.out.1 hb2)
      clear hb2 HB
      go_wp2
      go_step3
      go_wp2
      go_loopw [6,7] (fun sx sy wr2=>∃x y c:List UInt8,sx=.string ⟨x.toArray⟩∧sy=.string ⟨y.toArray⟩∧l.drop k=x++c∧t.drop k=y++c∧Below W.heap.size W wr2) (fun sx _ _=>lenOf sx)
      case atStart=>exact⟨l.drop k,t.drop k,[],by rw[ba_extract,List.take_length],by rw[ba_extract,List.take_length],by simp,by simp,HE.out.2⟩
      case round=>
        obtain⟨x,y,c2,rfl,rfl,hx,hy,hb2⟩:=hrel
        have HX:=Lib.hid (And.intro hx (And.intro hy hb2))
        have hxl:x.length≤100000:=by have:=congrArg List.length hx;simp at this;omega
        have hyl:y.length≤100000:=by have:=congrArg List.length hy;simp at this;omega
        clear hx hy hb2
        have hbx:=HW.out.1.trans (HX.out.2.2.mono HW.out.1.size)
        have kbx:=HW.out.2.below HX.out.2.2 HW.out.2.lt
        obtain⟨q0,q1,q2,q3,q4,q5⟩:=kbx.three
        have HK:=Lib.hid (And.intro hbx kbx)
        clear hbx kbx
        have ex:x=[]∨∃x' a,x=x'++[a]:=by
          rcases Nat.eq_zero_or_pos x.length with h|h
          ·exact .inl (List.length_eq_zero_iff.1 h)
          ·exact .inr ⟨_,_,snoc_of h⟩
        have ey:y=[]∨∃y' b,y=y'++[b]:=by
          rcases Nat.eq_zero_or_pos y.length with h|h
          ·exact .inl (List.length_eq_zero_iff.1 h)
          ·exact .inr ⟨_,_,snoc_of h⟩
        rcases ex with rfl|⟨x',a,rfl⟩
        ·obtain⟨hbx,kbx⟩:=HK.out
         go_wp2_with fail
         have b6:=(((hbx.setCell (p:=⟨w.heap.size,0,none⟩) (Nat.le_refl _) (.int .i64 (k:Int))).setCell (p:=⟨w.heap.size,1,none⟩) (Nat.le_refl _) (.string ⟨([]).toArray⟩)).setCell (p:=⟨w.heap.size,2,none⟩) (Nat.le_refl _) (.string ⟨(y).toArray⟩))
         have k6:=((kbx.set 0 (.int .i64 (k:Int))).set 1 (.string ⟨([]).toArray⟩)).set 2 (.string ⟨(y).toArray⟩)
         generalize World.setCell _ _ _=W6 at b6 k6 ⊢
         have c0:W6.cell? ⟨w.heap.size,0,none⟩=some (.int .i64 (k:Int)):=by rw[k6.cell];rfl
         have c1:W6.cell? ⟨w.heap.size,1,none⟩=some (.string ⟨([]).toArray⟩):=by rw[k6.cell];rfl
         have c3:W6.cell? ⟨w.heap.size,2,none⟩=some (.string ⟨(y).toArray⟩):=by rw[k6.cell];rfl
         refine⟨rfl,.agg #[.int .i64 (k:Int),.string ⟨([]).toArray⟩,.string ⟨(y).toArray⟩],by simp[results,Tryz.results27,go_sem,c0,c1,c3],l.take k,[],y,c2,?_,?_,?_,b6⟩
         ·rw[←HX.out.1,List.take_append_drop]
         ·rw[←HX.out.2.1,HE.out.1,List.take_append_drop]
         ·rw[List.length_take,Nat.min_eq_left hk1]
        rcases ey with rfl|⟨y',b,rfl⟩
        ·obtain⟨hbx,kbx⟩:=HK.out
         go_wp2_with fail
         have b6:=(((hbx.setCell (p:=⟨w.heap.size,0,none⟩) (Nat.le_refl _) (.int .i64 (k:Int))).setCell (p:=⟨w.heap.size,1,none⟩) (Nat.le_refl _) (.string ⟨(x'++[a]).toArray⟩)).setCell (p:=⟨w.heap.size,2,none⟩) (Nat.le_refl _) (.string ⟨([]).toArray⟩))
         have k6:=((kbx.set 0 (.int .i64 (k:Int))).set 1 (.string ⟨(x'++[a]).toArray⟩)).set 2 (.string ⟨([]).toArray⟩)
         generalize World.setCell _ _ _=W6 at b6 k6 ⊢
         have c0:W6.cell? ⟨w.heap.size,0,none⟩=some (.int .i64 (k:Int)):=by rw[k6.cell];rfl
         have c1:W6.cell? ⟨w.heap.size,1,none⟩=some (.string ⟨(x'++[a]).toArray⟩):=by rw[k6.cell];rfl
         have c3:W6.cell? ⟨w.heap.size,2,none⟩=some (.string ⟨([]).toArray⟩):=by rw[k6.cell];rfl
         refine⟨rfl,.agg #[.int .i64 (k:Int),.string ⟨(x'++[a]).toArray⟩,.string ⟨([]).toArray⟩],by simp[results,Tryz.results27,go_sem,c0,c1,c3],l.take k,x'++[a],[],c2,?_,?_,?_,b6⟩
         ·rw[←HX.out.1,List.take_append_drop]
         ·rw[←HX.out.2.1,HE.out.1,List.take_append_drop]
         ·rw[List.length_take,Nat.min_eq_left hk1]
        obtain⟨m,hm⟩:∃m,m=x'.length:=⟨_,rfl⟩
        obtain⟨n,hn⟩:∃n,n=y'.length:=⟨_,rfl⟩
        obtain⟨X,hX⟩:∃X,X=x'++[a]:=⟨_,rfl⟩
        obtain⟨Y,hY⟩:∃Y,Y=y'++[b]:=⟨_,rfl⟩
        have lX:X.length=m+1:=by rw[hX,hm];simp
        have lY:Y.length=n+1:=by rw[hY,hn];simp
        obtain⟨g5,g6⟩:=ba_at X m (by omega)
        obtain⟨g7,g8⟩:=ba_at Y n (by omega)
        rw[show X.getD m 0=a by rw[hX,hm];simp] at g6
        rw[show Y.getD n 0=b by rw[hY,hn];simp] at g8
        have eX:(ByteArray.mk X.toArray).extract 0 m=⟨x'.toArray⟩:=by rw[ba_extract,hX,hm,List.take_left];rfl
        have eY:(ByteArray.mk Y.toArray).extract 0 n=⟨y'.toArray⟩:=by rw[ba_extract,hY,hn,List.take_left];rfl
        rw[←hX] at hxl HX ⊢
        rw[←hY] at hyl HX ⊢
        have p1:(0:Int)≤(m:Int):=by omega
        have p2:(0:Int)≤(n:Int):=by omega
        have p3:(m:Int)<(X.length:Int):=by omega
        have p4:(n:Int)<(Y.length:Int):=by omega
        have p5:IntKind.i64.wrap ((X.length:Int)-1)=(m:Int):=by rw[IntWalk.i64_in _ (by omega)];omega
        have p6:IntKind.i64.wrap ((Y.length:Int)-1)=(n:Int):=by rw[IntWalk.i64_in _ (by omega)];omega
        have p7:(0:Int)<(X.length:Int):=by omega
        have p8:(0:Int)<(Y.length:Int):=by omega
        have p9:(m:Int)≤(X.length:Int):=by omega
        have p10:(n:Int)≤(Y.length:Int):=by omega
        have HL:=Lib.hid (And.intro hm (And.intro hn (And.intro hX (And.intro hY (And.intro lX lY)))))
        clear hm hn hX hY lX lY
        cases hq:((a.toNat:Int)==(b.toNat:Int))
        ·go_wp2_with fail
         go_quiet (fail)
         have hbx:=below_drewN' HK.out.1 nq
         have kbx:Bk (wr.drewN nq) w.heap.size 23 _:=HK.out.2
         obtain⟨q0,q1,q2,q3,q4,q5⟩:=kbx.three
         go_wp2_with fail
         have b6:=(((hbx.setCell (p:=⟨w.heap.size,0,none⟩) (Nat.le_refl _) (.int .i64 (k:Int))).setCell (p:=⟨w.heap.size,1,none⟩) (Nat.le_refl _) (.string ⟨(X).toArray⟩)).setCell (p:=⟨w.heap.size,2,none⟩) (Nat.le_refl _) (.string ⟨(Y).toArray⟩))
         have k6:=((kbx.set 0 (.int .i64 (k:Int))).set 1 (.string ⟨(X).toArray⟩)).set 2 (.string ⟨(Y).toArray⟩)
         generalize World.setCell _ _ _=W6 at b6 k6 ⊢
         have c0:W6.cell? ⟨w.heap.size,0,none⟩=some (.int .i64 (k:Int)):=by rw[k6.cell];rfl
         have c1:W6.cell? ⟨w.heap.size,1,none⟩=some (.string ⟨(X).toArray⟩):=by rw[k6.cell];rfl
         have c3:W6.cell? ⟨w.heap.size,2,none⟩=some (.string ⟨(Y).toArray⟩):=by rw[k6.cell];rfl
         refine⟨rfl,.agg #[.int .i64 (k:Int),.string ⟨(X).toArray⟩,.string ⟨(Y).toArray⟩],by simp[results,Tryz.results27,go_sem,c0,c1,c3],l.take k,X,Y,c2,?_,?_,?_,b6⟩
         ·rw[←HX.out.1,List.take_append_drop]
         ·rw[←HX.out.2.1,HE.out.1,List.take_append_drop]
         ·rw[List.length_take,Nat.min_eq_left hk1]
        ·go_wp2_with fail
         go_quiet (fail)
         go_wp2_with fail
         go_quiet (fail)
         go_wp2_with fail
         obtain⟨hm,hn,hX,hY,lX,lY⟩:=HL.out
         have hab:a=b:=UInt8.toNat_inj.1 (by rw[beq_iff_eq] at hq;omega)
         refine⟨⟨x',y',a::c2,rfl,rfl,?_,?_,below_drewN' (below_drewN' HX.out.2.2 _) _⟩,?_⟩
         ·rw[HX.out.1,hX];simp
         ·rw[HX.out.2.1,hY,hab];simp
         ·show x'.length<X.length
          omega)
end Go.Proofs.YtclllfmbldeneaaGreatDoor
