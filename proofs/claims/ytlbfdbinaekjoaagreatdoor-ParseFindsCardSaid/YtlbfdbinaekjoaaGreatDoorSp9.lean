/- Package token: document, the token of a here-document. -/
import Derived.Test.YtlbfdbinaekjoaaGreatDoorBh9
import Derived.Test.YtlbfdbinaekjoaaGreatDoorSt9
namespace Go.Proofs.YtlbfdbinaekjoaaGreatDoor
open Go.RowKit
set_option linter.unusedVariables false
set_option linter.unusedSimpArgs false
set_option maxRecDepth 100000
theorem fin_td {w w2:World} {B1 B2:Nat} {t1 t2:TypeId} {u0 u1 u2 u3 z0 z1 z2:Value} (a0 a1 a2 a3 b0 b1 b2:Value) (k1:Bk w2 B1 t1 #[u0,u1,u2,u3]) (k2:Bk w2 B2 t2 #[z0,z1,z2]) (hne:B1≠B2) (hbw:Below w.heap.size w w2) (h1:w.heap.size≤B1) (h2:w.heap.size≤B2) :
    ∀W5,W5=((((((w2.setCell ⟨B1,0,none⟩ a0).setCell ⟨B1,1,none⟩ a1).setCell ⟨B1,2,none⟩ a2).setCell ⟨B1,3,none⟩ a3).setCell ⟨B2,0,none⟩ b0).setCell ⟨B2,1,none⟩ b1).setCell ⟨B2,2,none⟩ b2 →
     Bk W5 B1 t1 #[a0,a1,a2,a3]∧Bk W5 B2 t2 #[b0,b1,b2]∧Below w.heap.size w W5∧∀{e:TypeId} {n:Nat} {v:Value} {xs:List Value},Rt w2 e 2 v n xs→e≠t1→e≠t2→Rt W5 e 2 v n xs:=by
  rintro W5 rfl
  refine⟨((((((k1.set 0 a0).set 1 a1).set 2 a2).set 3 a3).far (p:=⟨B2,0,none⟩) hne b0).far (p:=⟨B2,1,none⟩) hne b1).far (p:=⟨B2,2,none⟩) hne b2,?_,?_,?_⟩
  ·have hne':B2≠B1:=fun h=>hne h.symm
   exact(((((((k2.far (p:=⟨B1,0,none⟩) hne' a0).far (p:=⟨B1,1,none⟩) hne' a1).far (p:=⟨B1,2,none⟩) hne' a2).far (p:=⟨B1,3,none⟩) hne' a3).set 0 b0).set 1 b1).set 2 b2)
  ·exact((((((hbw.setCell (p:=⟨B1,0,none⟩) h1 _).setCell (p:=⟨B1,1,none⟩) h1 _).setCell (p:=⟨B1,2,none⟩) h1 _).setCell (p:=⟨B1,3,none⟩) h1 _).setCell (p:=⟨B2,0,none⟩) h2 _).setCell (p:=⟨B2,1,none⟩) h2 _).setCell (p:=⟨B2,2,none⟩) h2 _
  ·intro e n v xs hr g1 g2
   have hne':B2≠B1:=fun h=>hne h.symm
   have ka:=((((k2.far (p:=⟨B1,0,none⟩) hne' a0).far (p:=⟨B1,1,none⟩) hne' a1).far (p:=⟨B1,2,none⟩) hne' a2).far (p:=⟨B1,3,none⟩) hne' a3)
   have ha:=hr.keep (grown_set (grown_set (grown_set (grown_set (grown_refl w2 (some B1)) 0 a0) 1 a1) 2 a2) 3 a3) (k1.row g1)
   exact ha.keep (grown_set (grown_set (grown_set (grown_refl _ (some B2)) 0 b0) 1 b1) 2 b2) (ka.row g2)
set_option maxHeartbeats 4000000 in
theorem document_m (l:List UInt8) (x:Nat) (X:Lx) (d:Dl) (r:List Dl) (A:Option Addr) (n c:Nat) (w:World) (hl:l.length≤900) (hx:x<l.length) (hX:X.pd=d::r) (hn:n=r.length+1) (hv0:Rt w 94 2 (.slice A n c) n (dcls (d::r))) (hl2:n≤10000) :
    Calls Tryz.prog 61 #[.string ⟨l.toArray⟩,.int .i64 (x:Int),lxv X.aw (.slice A n c) X.bd] w fun e w'=>∃v,e=.returned (.tuple #[tkv (docL l x X d r).1,v])∧LxP w' (docL l x X d r).2 v∧Below w.heap.size w w':=by
  have hv:=hv0.rd
  unfold lxv
  obtain⟨g,o,rfl,hg,hnc,hcm,y0,y1⟩:=rd_first hv hn
  have ht:=rd_tail hv hn
  obtain⟨H,hH⟩:∃H,H=hereL l x d.1 d.2:=⟨_,rfl⟩
  have hD:docL l x X d r=if H.2=true then (⟨7,x,H.1,false⟩,⟨X.aw,r,!r.isEmpty⟩) else (⟨7,x,H.1,true⟩,X):=by rw[hH];rfl
  rw[hD]
  have HV:=Lib.hid (And.intro hv (And.intro ht (And.intro hn (And.intro hH hX))))
  have HV0:=Lib.hid hv0
  clear hv ht hn hH hD hX hv0
  have g1:g<w.heap.size+1:=by omega
  have g2:g<w.heap.size+1+1:=by omega
  have n0:0<n:=by have:=HV.out.2.2.1;omega
  have n1:(0:Int)<(n:Int):=by omega
  cases hb:H.2
  ·simp only[hb,Bool.false_eq_true,if_false]
   have HB:=Lib.hid hb
   clear hb
   go_enter Tryz.func61,Tryz.ntmps61
   go_wp2_with (
     (go_at_call 70
      refine(here_m l d.1 d.2 x _ (by omega) (by omega)).mono ?_
      rintro e w2 ⟨he,hb2⟩
      rw[←HV.out.2.2.2.1,HB.out] at he
      subst he
      have k0:Bk w2 w.heap.size 47 #[.int .i64 X.aw,.slice (some ⟨g,o,none⟩) n c,.bool X.bd]:=(((Bk.new w _ _).alloc _).alloc _).below hb2 (by simp<;>omega)
      have k1:Bk w2 (w.heap.size+1) 69 #[.int .i64 0,.int .i64 0,.int .i64 0,.bool false]:=((bk_second w _ _ _ _).alloc _).below hb2 (by simp<;>omega)
      have k2:Bk w2 (w.heap.size+1+1) 47 #[.int .i64 0,.slice none 0 0,.bool false]:=(show Bk _ (w.heap.size+1+1) _ _ by simpa using Bk.new ((w.alloc _).alloc _) 47 _).below hb2 (by simp<;>omega)
      have hbw:Below w.heap.size w w2:=((((Below.refl _ w).alloc (Nat.le_refl _) _).alloc (by simp) _).alloc (by simp<;>omega) _).trans (hb2.mono (by simp<;>omega))
      have hsz:w.heap.size+3≤w2.heap.size:=by have:=hb2.size;simpa using this
      have s0:w.heap.size<w2.heap.size:=by omega
      have s1:w.heap.size+1<w2.heap.size:=by omega
      have s2:w.heap.size+1+1<w2.heap.size:=by omega
      obtain⟨p0,p1,p2,p3,p4,p5⟩:=k0.three
      obtain⟨q0,q1,q2,q3,q4,q5,q6,q7⟩:=k1.four
      obtain⟨r0,r1,r2,r3,r4,r5⟩:=k2.three
      have H2:=Lib.hid (And.intro k0 (And.intro k1 (And.intro k2 hbw)))
      clear hb2 k0 k1 k2 hbw))
   go_region
   all_goals (
     obtain⟨m1,m2,mb,_⟩:=fin_td (.int .i64 7) (.int .i64 (x:Int)) (.int .i64 (H.1:Int)) (.bool true) (.int .i64 X.aw) (.slice (some ⟨g,o,none⟩) n c) (.bool X.bd) H2.out.2.1 H2.out.2.2.1 (by omega) H2.out.2.2.2 (by omega) (by omega) _ rfl
     generalize World.setCell _ _ _=W5 at m1 m2 mb ⊢
     obtain⟨q0,q1,q2,q3,_⟩:=(m1.alloc (.cells #[.int .i64 7,.int .i64 (x:Int),.int .i64 (H.1:Int),.bool true] 69)).drew.four
     obtain⟨r0,r1,r2,_⟩:=(m2.alloc (.cells #[.int .i64 7,.int .i64 (x:Int),.int .i64 (H.1:Int),.bool true] 69)).drew.three
     have hbF:=(below_drewN' (mb.alloc mb.size (.cells #[.int .i64 7,.int .i64 (x:Int),.int .i64 (H.1:Int),.bool true] 69)) 1)
     go_wp2
     refine bodyPost_ret (v:=.tuple #[tkv ⟨7,x,H.1,true⟩,lxv X.aw (.slice (some ⟨g,o,none⟩) n c) X.bd]) (by simp[results,Tryz.results61,go_sem,lxv,tkv,q0,q1,q2,q3,r0,r1,r2]) rfl ?_
     refine⟨_,rfl,⟨_,rfl,?_⟩,hbF⟩
     rw[HV.out.2.2.2.2,List.length_cons,←HV.out.2.2.1]
     exact HV0.out.next hbF)
  ·simp only[hb,if_true]
   have HB:=Lib.hid hb
   clear hb
   have hrl:r.length=n-1:=by have:=HV.out.2.2.1;omega
   have hR1:Rd w w.heap.size 2 (.slice (if c=1 then some ⟨g,o,none⟩ else some ⟨g,o+2,none⟩) (n-1) (c-1)) (n-1) (dcls r):=by
     by_cases hc:c=1
     ·obtain rfl:r=[]:=List.eq_nil_of_length_eq_zero (by omega)
      have:n-1=0:=by have:=hrl;simp at this;omega
      rw[this,if_pos hc,hc]
      exact⟨rfl,some ⟨g,o,none⟩,0,rfl,Nat.le_refl _,by unfold maxLen;omega,(fun h=>by cases h),fun h=>by simp at h⟩
     ·rw[if_neg hc]
      have:=HV.out.2.1
      rwa [hrl] at this
   have HR:=Lib.hid hR1
   have hlast:(decide (0<n-1)) = !r.isEmpty:=by rw[←hrl];cases r<;>rfl
   have HL:=Lib.hid hlast
   clear hR1 hlast
   have c1:(1:Int)≤(n:Int):=by omega
   have c2:(n:Int)≤(c:Int):=by omega
   go_enter Tryz.func61,Tryz.ntmps61
   go_wp2_with (first
     | (go_at_call 70
        refine(here_m l d.1 d.2 x _ (by omega) (by omega)).mono ?_
        rintro e w2 ⟨he,hb2⟩
        rw[←HV.out.2.2.2.1,HB.out] at he
        subst he
        have k0:Bk w2 w.heap.size 47 #[.int .i64 X.aw,.slice (some ⟨g,o,none⟩) n c,.bool X.bd]:=(((Bk.new w _ _).alloc _).alloc _).below hb2 (by simp<;>omega)
        have k1:Bk w2 (w.heap.size+1) 69 #[.int .i64 0,.int .i64 0,.int .i64 0,.bool false]:=((bk_second w _ _ _ _).alloc _).below hb2 (by simp<;>omega)
        have k2:Bk w2 (w.heap.size+1+1) 47 #[.int .i64 0,.slice none 0 0,.bool false]:=(show Bk _ (w.heap.size+1+1) _ _ by simpa using Bk.new ((w.alloc _).alloc _) 47 _).below hb2 (by simp<;>omega)
        have hbw:Below w.heap.size w w2:=((((Below.refl _ w).alloc (Nat.le_refl _) _).alloc (by simp) _).alloc (by simp<;>omega) _).trans (hb2.mono (by simp<;>omega))
        have hsz:w.heap.size+3≤w2.heap.size:=by have:=hb2.size;simpa using this
        have s0:w.heap.size<w2.heap.size:=by omega
        have s1:w.heap.size+1<w2.heap.size:=by omega
        have s2:w.heap.size+1+1<w2.heap.size:=by omega
        obtain⟨p0,p1,p2,p3,p4,p5⟩:=k0.three
        obtain⟨q0,q1,q2,q3,q4,q5,q6,q7⟩:=k1.four
        obtain⟨r0,r1,r2,r3,r4,r5⟩:=k2.three
        have H2:=Lib.hid (And.intro k0 (And.intro k1 (And.intro k2 hbw)))
        clear hb2 k0 k1 k2 hbw)
     | (go_at_call 71
        refine(clone9_m r _ (n-1) (c-1) _ hrl.symm ((HR.out.keep (H2.out.2.2.2.alloc H2.out.2.2.2.size _) (Nat.le_refl _)).mono (by have:=H2.out.2.2.2.size;simp;omega)) (by omega)).mono ?_
        rintro e w3 ⟨v1,rfl,hown,hb3⟩
        have k0:=(H2.out.1.alloc _).below hb3 (by simp<;>omega)
        have k1:=(H2.out.2.1.alloc _).below hb3 (by simp<;>omega)
        have k2:=(H2.out.2.2.1.alloc _).below hb3 (by simp<;>omega)
        have k3:Bk w3 w2.heap.size 69 #[.int .i64 7,.int .i64 (x:Int),.int .i64 (H.1:Int),.bool false]:=(Bk.new w2 _ _).below hb3 (by simp)
        have hbw:Below w.heap.size w w3:=(H2.out.2.2.2.alloc H2.out.2.2.2.size _).trans (hb3.mono (by have:=H2.out.2.2.2.size;simp;omega))
        have hown:w3.ownsRow (w2.heap.size+1) 94 2 v1 (n-1) (dcls r):=by simpa using hown
        obtain⟨A1,n1,c1',rfl⟩:=own_form' hown
        obtain rfl:=own_len hown
        have e0:=k0.lt
        have e1:=k1.lt
        have e2:=k2.lt
        have e3:=k3.lt
        obtain⟨p0,p1,p2,p3,p4,p5⟩:=k0.three
        obtain⟨q0,q1,q2,q3,q4,q5,q6,q7⟩:=k1.four
        obtain⟨r0,r1,r2,r3,r4,r5⟩:=k2.three
        obtain⟨m0,m1,m2,m3,_⟩:=k3.four
        have H3:=Lib.hid (And.intro k1 (And.intro k2 (And.intro hbw hown)))
        clear hb3 k0 k1 k2 k3 hbw hown))
   all_goals go_region
   all_goals (
     obtain⟨m1,m2,mb,mo⟩:=fin_td (.int .i64 7) (.int .i64 (x:Int)) (.int .i64 (H.1:Int)) (.bool false) (.int .i64 X.aw) (.slice A1 (n-1) c1') (.bool (decide (0<n-1))) H3.out.1 H3.out.2.1 (by omega) H3.out.2.2.1 (by omega) (by omega) _ rfl
     have mo:=mo (Rt.of_own H3.out.2.2.2) (by decide) (by decide)
     generalize World.setCell _ _ _=W5 at m1 m2 mb mo ⊢
     obtain⟨q0,q1,q2,q3,_⟩:=m1.drew.four
     obtain⟨r0,r1,r2,_⟩:=m2.drew.three
     have hbF:=below_drewN' mb 1
     go_wp2
     refine bodyPost_ret (v:=.tuple #[tkv ⟨7,x,H.1,false⟩,lxv X.aw (.slice A1 (n-1) c1') (decide (0<n-1))]) (by simp[results,Tryz.results61,go_sem,lxv,tkv,q0,q1,q2,q3,r0,r1,r2]) rfl ?_
     refine⟨_,rfl,⟨_,by rw[HL.out],?_⟩,hbF⟩
     rw[hrl]
     exact mo.next (below_drewN' (Below.refl _ _) 1))
end Go.Proofs.YtlbfdbinaekjoaaGreatDoor
namespace Go.Proofs.YtlbfdbinaekjoaaGreatDoor
open Go.RowKit
set_option linter.unusedVariables false
set_option linter.unusedSimpArgs false
set_option maxRecDepth 100000
theorem step_doc (l:List UInt8) (x:Nat) (X:Lx) (d:Dl) (r:List Dl) (hb:X.bd=true) (hp:X.pd=d::r):stepL l x X=docL l x X d r:=by unfold stepL;rw[hb,hp]
theorem step_plain (l:List UInt8) (x:Nat) (X:Lx) (h:X.bd=false∨X.pd=[]):stepL l x X=(plainL l x,behindL (sub l x (plainL l x).to) (plainL l x).kd X):=by
  unfold stepL
  split
  ·rename_i d r hb hp
   rcases h with h|h
   ·rw[hb] at h;cases h
   ·rw[hp] at h;cases h
  ·rfl
set_option maxHeartbeats 4000000 in
theorem step9_doc (l:List UInt8) (x:Nat) (X:Lx) (d:Dl) (r:List Dl) (A:Option Addr) (n c:Nat) (w:World) (hl:l.length≤900) (hx:x<l.length) (hb:X.bd=true) (hX:X.pd=d::r) (hn:n=r.length+1) (hv:Rt w 94 2 (.slice A n c) n (dcls (d::r))) (hl2:n≤10000) :
    Calls Tryz.prog 55 #[.string ⟨l.toArray⟩,.int .i64 (x:Int),lxv X.aw (.slice A n c) X.bd] w fun e w'=>∃v,e=.returned (.tuple #[tkv (stepL l x X).1,v])∧LxP w' (stepL l x X).2 v∧Below w.heap.size w w':=by
  rw[step_doc l x X d r hb hX]
  rw[hb]
  have t0:decide ((x:Int)<0)=false:=by simp
  have t1:decide ((l.length:Int)≤(x:Int))=false:=by simp;omega
  have n1:(0:Int)<(n:Int):=by omega
  have HV:=Lib.hid (And.intro hv (And.intro hn (And.intro hX hb)))
  have hD:∀W,Rt W 94 2 (.slice A n c) n (dcls (d::r))→Calls Tryz.prog 61 #[.string ⟨l.toArray⟩,.int .i64 (x:Int),.agg #[.int .i64 X.aw,.slice A n c,.bool true]] W fun e w'=>∃v,e=.returned (.tuple #[tkv (docL l x X d r).1,v])∧LxP w' (docL l x X d r).2 v∧Below W.heap.size W w':=by
    intro W hW
    have:=document_m l x X d r A n c W hl hx hX hn hW hl2
    rw[hb] at this
    exact this
  obtain⟨T,hT⟩:∃T,T=docL l x X d r:=⟨_,rfl⟩
  rw[←hT] at hD ⊢
  have HD:=Lib.hid hD
  clear hv hn hX hD hT hb
  unfold lxv
  go_enter Tryz.func55,Tryz.ntmps55
  go_wp2_with (
    (go_at_call 61
     refine(HD.out _ (HV.out.1.next (by go_grown))).mono ?_
     rintro e w2 ⟨v,rfl,⟨v1,rfl,hr⟩,hb2⟩
     obtain⟨A1,c1,rfl⟩:=hr.form
     unfold tkv lxv
     have k1:Bk w2 (w.heap.size+1) 69 #[.int .i64 0,.int .i64 0,.int .i64 0,.bool false]:=((bk_second w _ _ _ _).alloc _).below hb2 (by simp<;>omega)
     have k2:Bk w2 (w.heap.size+1+1) 47 #[.int .i64 0,.slice none 0 0,.bool false]:=(show Bk _ (w.heap.size+1+1) _ _ by simpa using Bk.new ((w.alloc _).alloc _) 47 _).below hb2 (by simp<;>omega)
     have hbw:Below w.heap.size w w2:=((((Below.refl _ w).alloc (Nat.le_refl _) _).alloc (by simp) _).alloc (by simp<;>omega) _).trans (hb2.mono (by simp<;>omega))
     have hsz:w.heap.size+3≤w2.heap.size:=by have:=hb2.size;simpa using this
     obtain⟨q0,q1,q2,q3,q4,q5,q6,q7⟩:=k1.four
     obtain⟨r0,r1,r2,r3,r4,r5⟩:=k2.three
     have H2:=Lib.hid (And.intro k1 (And.intro k2 (And.intro hbw hr)))
     clear hb2 k1 k2 hbw hr))
  have hrd:=H2.out.2.2.2
  obtain⟨m1,m2,mb,mo⟩:=fin_td (.int .i64 (T.1.kd:Int)) (.int .i64 (T.1.fr:Int)) (.int .i64 (T.1.to:Int)) (.bool T.1.op) (.int .i64 T.2.aw) (.slice A1 T.2.pd.length c1) (.bool T.2.bd) H2.out.1 H2.out.2.1 (by omega) H2.out.2.2.1 (by omega) (by omega) _ rfl
  have hrF:=mo H2.out.2.2.2 (by decide) (by decide)
  generalize World.setCell _ _ _=W5 at m1 m2 mb hrF mo ⊢
  obtain⟨q0,q1,q2,q3,_⟩:=m1.four
  obtain⟨r0,r1,r2,_⟩:=m2.three
  go_wp2
  refine bodyPost_ret (v:=.tuple #[tkv T.1,lxv T.2.aw (.slice A1 T.2.pd.length c1) T.2.bd]) (by simp[results,Tryz.results55,go_sem,lxv,tkv,q0,q1,q2,q3,r0,r1,r2]) rfl ?_
  exact⟨_,rfl,⟨_,rfl,hrF⟩,mb⟩
theorem Bk.tok {w:World} {g:Nat} {t:TypeId} {x y z u:Value} (h:Bk w g t #[x,y,z,u]):w.cell? ⟨g,0,none⟩=some x∧w.cell? ⟨g,1,none⟩=some y∧w.cell? ⟨g,2,none⟩=some z∧w.cell? ⟨g,3,none⟩=some u:=⟨h.four.1,h.four.2.1,h.four.2.2.1,h.four.2.2.2.1⟩
set_option maxHeartbeats 4000000 in
theorem step9_plain (l:List UInt8) (x:Nat) (X:Lx) (A:Option Addr) (n c:Nat) (w:World) (hl:l.length≤900) (hx:x<l.length) (hX:X.bd=false∨X.pd=[]) (hn:n=X.pd.length) (hv:Rt w 94 2 (.slice A n c) n (dcls X.pd)) (hl2:n≤10000) :
    Calls Tryz.prog 55 #[.string ⟨l.toArray⟩,.int .i64 (x:Int),lxv X.aw (.slice A n c) X.bd] w fun e w'=>∃v,e=.returned (.tuple #[tkv (stepL l x X).1,v])∧LxP w' (stepL l x X).2 v∧Below w.heap.size w w':=by
  rw[step_plain l x X hX]
  have t0:decide ((x:Int)<0)=false:=by simp
  have t1:decide ((l.length:Int)≤(x:Int))=false:=by simp;omega
  have hto:=plainL_to l x hx
  obtain⟨T,hT⟩:∃T,T=plainL l x:=⟨_,rfl⟩
  rw[←hT] at hto ⊢
  obtain⟨f1,f2,f3,f4,f5⟩:=hto
  obtain⟨S,hS⟩:∃S,S=sub l x T.to:=⟨_,rfl⟩
  have hext:(ByteArray.mk l.toArray).extract x T.to=⟨S.toArray⟩:=by rw[ba_extract,hS];rfl
  have hSl:S.length≤900:=by rw[hS];unfold sub;simp;omega
  rw[←hS]
  obtain⟨Y,hY⟩:∃Y,Y=behindL S T.kd X:=⟨_,rfl⟩
  have hB:∀W,Rt W 94 2 (.slice A n c) n (dcls X.pd)→Calls Tryz.prog 63 #[.string ⟨S.toArray⟩,.int .i64 (T.kd:Int),.agg #[.int .i64 X.aw,.slice A n c,.bool X.bd]] W fun e w'=>∃v,e=.returned v∧LxP w' Y v∧Below W.heap.size W w':=by
    intro W hW
    rw[hY]
    exact behind_m S T.kd X A n c W hSl hn hW hl2 (by omega)
  rw[←hY]
  have v1:(x:Int)≤(T.to:Int):=by omega
  have v2:(T.to:Int)≤(l.length:Int):=by omega
  obtain⟨bd,hbd⟩:∃bd,bd=X.bd:=⟨_,rfl⟩
  rw[←hbd] at hB hX ⊢
  have HV:=Lib.hid (And.intro hv (And.intro hT (And.intro hext (And.intro hB hn))))
  have hcase:bd=false∨(bd=true∧n=0):=by
    cases bd
    ·exact .inl rfl
    ·rcases hX with h|h
     ·cases h
     ·exact .inr ⟨rfl,by rw[hn,h];rfl⟩
  clear hv hT hext hB hS hSl hY f3 f4 f5 hn hX hbd
  unfold lxv
  rcases hcase with rfl|⟨rfl,n0⟩
  ·go_enter Tryz.func55,Tryz.ntmps55
   go_wp2_with (
     (go_at_call 62
      refine(plain9_m l x _ hl hx).mono ?_
      rintro e w2 ⟨he,hb2⟩
      rw[←HV.out.2.1] at he
      unfold tkv at he
      rw[f1] at he
      subst he
      have k0:Bk w2 w.heap.size 47 #[.int .i64 X.aw,.slice A n c,.bool false]:=(((Bk.new w _ _).alloc _).alloc _).below hb2 (by simp<;>omega)
      have k1:Bk w2 (w.heap.size+1) 69 #[.int .i64 0,.int .i64 0,.int .i64 0,.bool false]:=((bk_second w _ _ _ _).alloc _).below hb2 (by simp<;>omega)
      have k2:Bk w2 (w.heap.size+1+1) 47 #[.int .i64 0,.slice none 0 0,.bool false]:=(show Bk _ (w.heap.size+1+1) _ _ by simpa using Bk.new ((w.alloc _).alloc _) 47 _).below hb2 (by simp<;>omega)
      have hbw:Below w.heap.size w w2:=((((Below.refl _ w).alloc (Nat.le_refl _) _).alloc (by simp) _).alloc (by simp<;>omega) _).trans (hb2.mono (by simp<;>omega))
      have hsz:w.heap.size+3≤w2.heap.size:=by have:=hb2.size;simpa using this
      have H2:=Lib.hid (And.intro k0 (And.intro k1 (And.intro k2 hbw)))
      clear hb2 k0 k1 k2 hbw))
   refine gen1 fun W hbW hkW hsW=>?_
   have k0:=H2.out.1.below hbW (by omega)
   have k1:=H2.out.2.1.below hbW (by omega)
   have k2:=H2.out.2.2.1.below hbW (by omega)
   have hbw:Below w.heap.size w W:=H2.out.2.2.2.trans (hbW.mono (by omega))
   have hr:=HV.out.1.next hbw
   obtain⟨p0,p1,p2,_⟩:=k0.three
   obtain⟨q0,q1,q2,q3,q4,q5,q6,q7⟩:=k1.four
   obtain⟨r0,r1,r2,r3,r4,r5⟩:=k2.three
   obtain⟨m0,m1,m2,m3⟩:=hkW.tok
   have e0:=k0.lt
   have e1:=k1.lt
   have e2:=k2.lt
   have e3:=hkW.lt
   have HW:=Lib.hid (And.intro k1 (And.intro k2 (And.intro hkW (And.intro hbw (And.intro hr k0)))))
   clear k0 k1 k2 hbW hkW hbw hr
   have a1:¬w.heap.size+1=w2.heap.size:=by omega
   have a2:¬w.heap.size+1+1=w2.heap.size:=by omega
   have a3:¬w2.heap.size=w.heap.size+1:=by omega
   have a4:¬w2.heap.size=w.heap.size+1+1:=by omega
   have a5:¬w.heap.size+1+1=w.heap.size:=by omega
   have a6:¬w.heap.size+1=w.heap.size:=by omega
   have a7:¬w.heap.size=w.heap.size+1+1:=by omega
   have a8:¬w.heap.size=w.heap.size+1:=by omega
   go_region_held3 (fun w'=>w'.cell? ⟨w.heap.size,0,none⟩=some (.int .i64 X.aw)∧w'.cell? ⟨w.heap.size,1,none⟩=some (.slice A n c)∧w'.cell? ⟨w.heap.size,2,none⟩=some (.bool false) ∧
       w'.cell? ⟨w2.heap.size,0,none⟩=some (.int .i64 (T.kd:Int))∧w'.cell? ⟨w2.heap.size,1,none⟩=some (.int .i64 (x:Int))∧w'.cell? ⟨w2.heap.size,2,none⟩=some (.int .i64 (T.to:Int))∧w'.cell? ⟨w2.heap.size,3,none⟩=some (.bool T.op))
     (first
       | with_reducible exact⟨g0,g1,g2,g3,g4,g5,g6⟩
       | go_keep)
     ((go_at_call 63
       rw[HV.out.2.2.1]
       refine(HV.out.2.2.2.1 _ (HW.out.2.2.2.2.1.next (by go_grown))).mono ?_
       rintro e w5 ⟨v,rfl,⟨v1,rfl,hr⟩,hb5⟩
       obtain⟨A1,c1,rfl⟩:=hr.form
       unfold lxv
       have hb6:Below W.heap.size W w5:=by first|exact hb5|exact(below_drewN' (Below.refl _ W) 1).trans hb5
       have k0:=HW.out.2.2.2.2.2.below hb6 e0
       have k1:=HW.out.1.below hb6 e1
       have k2:=HW.out.2.1.below hb6 e2
       have k3:=HW.out.2.2.1.below hb6 e3
       have hbw:Below w.heap.size w w5:=HW.out.2.2.2.1.trans (hb6.mono HW.out.2.2.2.1.size)
       obtain⟨g0,g1,g2,_⟩:=k0.three
       obtain⟨q0,q1,q2,q3,q4,q5,q6,q7⟩:=k1.four
       obtain⟨r0,r1,r2,r3,r4,r5⟩:=k2.three
       obtain⟨g3,g4,g5,g6⟩:=k3.tok
       have H5:=Lib.hid (And.intro k1 (And.intro k2 (And.intro hbw hr)))
       clear hb5 hb6 k0 k1 k2 k3 hbw hr))
   obtain⟨m1,m2,mb,mo⟩:=fin_td (.int .i64 (T.kd:Int)) (.int .i64 (x:Int)) (.int .i64 (T.to:Int)) (.bool T.op) (.int .i64 Y.aw) (.slice A1 Y.pd.length c1) (.bool Y.bd) H5.out.1 H5.out.2.1 (by omega) H5.out.2.2.1 (by omega) (by omega) _ rfl
   have hrF:=mo H5.out.2.2.2 (by decide) (by decide)
   generalize World.setCell _ _ _=W5 at m1 m2 mb hrF mo ⊢
   obtain⟨q0,q1,q2,q3,_⟩:=m1.four
   obtain⟨r0,r1,r2,_⟩:=m2.three
   go_wp2
   refine bodyPost_ret (v:=.tuple #[tkv T,lxv Y.aw (.slice A1 Y.pd.length c1) Y.bd]) (by simp[results,Tryz.results55,go_sem,lxv,tkv,f1,q0,q1,q2,q3,r0,r1,r2]) rfl ?_
   exact⟨_,rfl,⟨_,rfl,hrF⟩,mb⟩
  ·have n1:¬(0:Int)<(n:Int):=by omega
   clear n0
   go_enter Tryz.func55,Tryz.ntmps55
   go_wp2_with (
     (go_at_call 62
      refine(plain9_m l x _ hl hx).mono ?_
      rintro e w2 ⟨he,hb2⟩
      rw[←HV.out.2.1] at he
      unfold tkv at he
      rw[f1] at he
      subst he
      have k0:Bk w2 w.heap.size 47 #[.int .i64 X.aw,.slice A n c,.bool true]:=(((Bk.new w _ _).alloc _).alloc _).below hb2 (by simp<;>omega)
      have k1:Bk w2 (w.heap.size+1) 69 #[.int .i64 0,.int .i64 0,.int .i64 0,.bool false]:=((bk_second w _ _ _ _).alloc _).below hb2 (by simp<;>omega)
      have k2:Bk w2 (w.heap.size+1+1) 47 #[.int .i64 0,.slice none 0 0,.bool false]:=(show Bk _ (w.heap.size+1+1) _ _ by simpa using Bk.new ((w.alloc _).alloc _) 47 _).below hb2 (by simp<;>omega)
      have hbw:Below w.heap.size w w2:=((((Below.refl _ w).alloc (Nat.le_refl _) _).alloc (by simp) _).alloc (by simp<;>omega) _).trans (hb2.mono (by simp<;>omega))
      have hsz:w.heap.size+3≤w2.heap.size:=by have:=hb2.size;simpa using this
      have H2:=Lib.hid (And.intro k0 (And.intro k1 (And.intro k2 hbw)))
      clear hb2 k0 k1 k2 hbw))
   refine gen1 fun W hbW hkW hsW=>?_
   have k0:=H2.out.1.below hbW (by omega)
   have k1:=H2.out.2.1.below hbW (by omega)
   have k2:=H2.out.2.2.1.below hbW (by omega)
   have hbw:Below w.heap.size w W:=H2.out.2.2.2.trans (hbW.mono (by omega))
   have hr:=HV.out.1.next hbw
   obtain⟨p0,p1,p2,_⟩:=k0.three
   obtain⟨q0,q1,q2,q3,q4,q5,q6,q7⟩:=k1.four
   obtain⟨r0,r1,r2,r3,r4,r5⟩:=k2.three
   obtain⟨m0,m1,m2,m3⟩:=hkW.tok
   have e0:=k0.lt
   have e1:=k1.lt
   have e2:=k2.lt
   have e3:=hkW.lt
   have HW:=Lib.hid (And.intro k1 (And.intro k2 (And.intro hkW (And.intro hbw (And.intro hr k0)))))
   clear k0 k1 k2 hbW hkW hbw hr
   have a1:¬w.heap.size+1=w2.heap.size:=by omega
   have a2:¬w.heap.size+1+1=w2.heap.size:=by omega
   have a3:¬w2.heap.size=w.heap.size+1:=by omega
   have a4:¬w2.heap.size=w.heap.size+1+1:=by omega
   have a5:¬w.heap.size+1+1=w.heap.size:=by omega
   have a6:¬w.heap.size+1=w.heap.size:=by omega
   have a7:¬w.heap.size=w.heap.size+1+1:=by omega
   have a8:¬w.heap.size=w.heap.size+1:=by omega
   go_region_held3 (fun w'=>w'.cell? ⟨w.heap.size,0,none⟩=some (.int .i64 X.aw)∧w'.cell? ⟨w.heap.size,1,none⟩=some (.slice A n c)∧w'.cell? ⟨w.heap.size,2,none⟩=some (.bool true) ∧
       w'.cell? ⟨w2.heap.size,0,none⟩=some (.int .i64 (T.kd:Int))∧w'.cell? ⟨w2.heap.size,1,none⟩=some (.int .i64 (x:Int))∧w'.cell? ⟨w2.heap.size,2,none⟩=some (.int .i64 (T.to:Int))∧w'.cell? ⟨w2.heap.size,3,none⟩=some (.bool T.op))
     (first
       | with_reducible exact⟨g0,g1,g2,g3,g4,g5,g6⟩
       | go_keep)
     ((go_at_call 63
       rw[HV.out.2.2.1]
       refine(HV.out.2.2.2.1 _ (HW.out.2.2.2.2.1.next (by go_grown))).mono ?_
       rintro e w5 ⟨v,rfl,⟨v1,rfl,hr⟩,hb5⟩
       obtain⟨A1,c1,rfl⟩:=hr.form
       unfold lxv
       have hb6:Below W.heap.size W w5:=by first|exact hb5|exact(below_drewN' (Below.refl _ W) 1).trans hb5
       have k0:=HW.out.2.2.2.2.2.below hb6 e0
       have k1:=HW.out.1.below hb6 e1
       have k2:=HW.out.2.1.below hb6 e2
       have k3:=HW.out.2.2.1.below hb6 e3
       have hbw:Below w.heap.size w w5:=HW.out.2.2.2.1.trans (hb6.mono HW.out.2.2.2.1.size)
       obtain⟨g0,g1,g2,_⟩:=k0.three
       obtain⟨q0,q1,q2,q3,q4,q5,q6,q7⟩:=k1.four
       obtain⟨r0,r1,r2,r3,r4,r5⟩:=k2.three
       obtain⟨g3,g4,g5,g6⟩:=k3.tok
       have H5:=Lib.hid (And.intro k1 (And.intro k2 (And.intro hbw hr)))
       clear hb5 hb6 k0 k1 k2 k3 hbw hr))
   obtain⟨m1,m2,mb,mo⟩:=fin_td (.int .i64 (T.kd:Int)) (.int .i64 (x:Int)) (.int .i64 (T.to:Int)) (.bool T.op) (.int .i64 Y.aw) (.slice A1 Y.pd.length c1) (.bool Y.bd) H5.out.1 H5.out.2.1 (by omega) H5.out.2.2.1 (by omega) (by omega) _ rfl
   have hrF:=mo H5.out.2.2.2 (by decide) (by decide)
   generalize World.setCell _ _ _=W5 at m1 m2 mb hrF mo ⊢
   obtain⟨q0,q1,q2,q3,_⟩:=m1.four
   obtain⟨r0,r1,r2,_⟩:=m2.three
   go_wp2
   refine bodyPost_ret (v:=.tuple #[tkv T,lxv Y.aw (.slice A1 Y.pd.length c1) Y.bd]) (by simp[results,Tryz.results55,go_sem,lxv,tkv,f1,q0,q1,q2,q3,r0,r1,r2]) rfl ?_
   exact⟨_,rfl,⟨_,rfl,hrF⟩,mb⟩
theorem step9_m (l:List UInt8) (x:Nat) (X:Lx) (A:Option Addr) (n c:Nat) (w:World) (hl:l.length≤900) (hx:x<l.length) (hn:n=X.pd.length) (hv:Rt w 94 2 (.slice A n c) n (dcls X.pd)) (hl2:n≤10000) :
    Calls Tryz.prog 55 #[.string ⟨l.toArray⟩,.int .i64 (x:Int),lxv X.aw (.slice A n c) X.bd] w fun e w'=>∃v,e=.returned (.tuple #[tkv (stepL l x X).1,v])∧LxP w' (stepL l x X).2 v∧Below w.heap.size w w':=by
  cases hb:X.bd
  ·have:=step9_plain l x X A n c w hl hx (.inl hb) hn hv hl2
   rwa [hb] at this
  ·cases hp:X.pd with
   | nil=>
     have:=step9_plain l x X A n c w hl hx (.inr hp) hn hv hl2
     rwa [hb] at this
   | cons d r=>
     have:=step9_doc l x X d r A n c w hl hx hb hp (by rw[hn,hp];rfl) (by rw[←hp];exact hv) hl2
     rwa [hb] at this
end Go.Proofs.YtlbfdbinaekjoaaGreatDoor
