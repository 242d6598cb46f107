/- MotionThere: the walk. -/
import Derived.Test.YtgdifhhioahakaaGreatDoorNu29
import Derived.Test.YtgdifhhioahakaaGreatDoorMt29
namespace Go.Proofs.YtgdifhhioahakaaGreatDoor
open Go.RowKit
set_option linter.unusedVariables false
set_option linter.unusedSimpArgs false
set_option maxRecDepth 100000
attribute [local go_sem] Oper.semAt_some
def pairChk (F:List Lf) (L:List Nd):Bool:=decide (F.length≤900)&&decide (L.length≤90000)&&L.all (fun x=>decide (x.fr≤F.length)&&decide (x.tt≤F.length)&&endC x.kd==0)&&F.all (fun y=>decide (y.tx.length≤900)&&decide (0≤y.fr)&&decide (y.fr≤1000000))
theorem pairChk_ok {F:List Lf} {L:List Nd} (h:pairChk F L=true):PairOk F L:=by
  unfold pairChk at h
  simp only[Bool.and_eq_true,decide_eq_true_eq,List.all_eq_true,beq_iff_eq] at h
  obtain⟨⟨⟨h1,h2⟩,h3⟩,h4⟩:=h
  exact⟨⟨h1,h2,fun x hx=>(h3 x hx).1,fun y hy=>(h4 y hy).1.1⟩,fun y hy=>⟨(h4 y hy).1.2,(h4 y hy).2⟩,fun k x hx hne=>absurd (h3 x (List.mem_of_getElem? hx)).2 hne⟩
theorem awk29a:pairChk (lvs3 [39,97,39]) (parseT (lvs3 [39,97,39])).l=true:=by decide +kernel
theorem awk29b:mateR (prL [39,97,39]) 0=some 2:=by decide +kernel
theorem awk29c:fwdL (stopsL (btwI [97,98,32,99,100] 2) (([97,98,32,99,100]:List UInt8).length:Int)) (([97,98,32,99,100]:List UInt8).length:Int) (inM (([97,98,32,99,100]:List UInt8).length:Int) 0)=3:=by decide +kernel
theorem awake29_c (w:World) :
    Calls Tryz.prog 14 #[] w fun e w'=>e=.returned (.bool true)∧Below w.heap.size w w':=by
  have h1:=Mate_m [39,97,39] (pairChk_ok awk29a) (by decide) 0 w
  rw[awk29b] at h1
  have h2:=fun W=>Forward_m [97,98,32,99,100] 0 2 (stop_ok _ _ (by decide)) W
  rw[awk29c] at h2
  have H:=Lib.hid (And.intro h1 h2)
  clear h1 h2
  go_enter Tryz.func14,Tryz.ntmps14
  go_wp2_with (first
    | (go_at_call 15
       refine H.out.1.mono ?_
       rintro e w1 ⟨rfl,hb⟩
       simp only[Option.getD_some,Option.isSome_some]
       have H1:=Lib.hid hb
       clear hb)
    | (go_at_call 17
       refine(H.out.2 _).mono ?_
       rintro e w2 ⟨rfl,hb⟩
       have H2:=Lib.hid hb
       clear hb))
  go_ret
  exact⟨rfl,H1.out.trans (H2.out.mono H1.out.size)⟩
set_option maxHeartbeats 4000000 in
theorem motionThere_w (l:List UInt8) (k:Int) (w:World) (hl0:l.length≤9223372036854775807) (_ : -9223372036854775808≤k∧k≤9223372036854775807) :
    Calls Tryz.prog 8 #[.string ⟨l.toArray⟩,.int .i64 k] w fun e w'=>e=.returned (.bool true)∧Below w.heap.size w w':=by
  by_cases hl:l.length≤60
  ·have hok:=stop_ok l k (by omega)
   have hst:=fun W=>Stops_m l k hok.c hok.b hok.n hok.l W
   have hfw:=fun a W=>Forward_m l a k hok W
   have hbk:=fun a W=>Back_m l a k hok W
   have hlen:=hok.len
   obtain⟨s1,⟨r,s2⟩,s3⟩:=stops_ok hok.b (by omega)
   obtain⟨S,hS⟩:∃S,S=stopsL (btwI l k) (l.length:Int):=⟨_,rfl⟩
   rw[←hS] at hst hfw hbk hlen s1 s2 s3
   have hin:∀x∈S,inM (l.length:Int) x=x:=fun x hx=>by
     have h1:0≤x:=by
       rw[s2] at hx s1
       rcases List.mem_cons.1 hx with rfl|hx
       ·exact Int.le_refl _
       ·have:=(List.pairwise_cons.1 s1).1 x hx;omega
     have h2:x≤(l.length:Int):=by
       obtain⟨i,hi,rfl⟩:=List.mem_iff_getElem.1 hx
       have hg:=s3
       rw[List.getLast?_eq_getElem?] at hg
       obtain⟨q1,q2⟩:=List.getElem?_eq_some_iff.1 hg
       rcases Nat.lt_or_ge i (S.length-1) with h|h
       ·have:=List.pairwise_iff_getElem.1 s1 i (S.length-1) hi q1 h
        omega
       ·obtain rfl:i=S.length-1:=by omega
        omega
     unfold inM
     omega
   have hpos:0<S.length:=by rw[s2];simp
   have h0:S[0]? = some 0:=by rw[s2];rfl
   have hL:S[S.length-1]? = some (l.length:Int):=by rw[←List.getLast?_eq_getElem?];exact s3
   have H:=Lib.hid (And.intro hst (And.intro hfw (And.intro hbk (And.intro s1 (And.intro hin (And.intro h0 hL))))))
   clear hst hfw hbk s1 s2 s3 hin h0 hL hok hS
   have t0:decide (60<(l.length:Int))=false:=by simp;omega
   go_enter Tryz.func8,Tryz.ntmps8
   go_wp2_with (first
     | (go_at_call 14
        refine(awake29_c _).mono ?_
        rintro e w1 ⟨rfl,hb⟩
        have hsz1:=hb.size
        have H1:=Lib.hid hb
        clear hb)
     | (go_at_call 16
        refine(H.out.1 _).mono ?_
        rintro e w2 ⟨v2,rfl,ho,hb⟩
        obtain⟨A2,n2,c2,rfl⟩:=own_form' ho
        obtain rfl:=own_len ho
        obtain⟨g,rfl⟩:=own_at ho hpos
        have H2:=Lib.hid (And.intro ho (H1.out.trans (hb.mono hsz1)))
        clear ho hb))
   go_loopw [6] (fun i wr=>∃q:Nat,q≤S.length∧i=.int .i64 q∧wr.ownsRow w1.heap.size 3 1 (.slice (some ⟨g,0,none⟩) S.length c2) S.length (ivs S)∧Below w.heap.size w wr) (fun i _=>S.length-(intOf i).toNat)
   case atStart=>exact⟨0,Nat.zero_le _,rfl,H2.out⟩
   case round=>
     obtain⟨q,hq,rfl,ho,hb⟩:=hrel
     have hszr:=hb.size
     by_cases hlt:q<S.length
     ·have u1:(q:Int)<(S.length:Int):=by omega
      have u2:(0:Int)≤(q:Int):=by omega
      have v1:IntKind.i64.wrap ((S.length:Int)-1)=(S.length:Int)-1:=IntWalk.i64_in _ (by omega)
      by_cases hlast:q+1<S.length
      ·obtain⟨x,hx⟩:∃x,S[q]? = some x:=⟨_,List.getElem?_eq_getElem hlt⟩
       obtain⟨y,hy⟩:∃y,S[q+1]? = some y:=⟨_,List.getElem?_eq_getElem hlast⟩
       have t1:decide ((q:Int)<(S.length:Int)-1)=true:=by simp;omega
       have v2:IntKind.i64.wrap ((q:Int)+1)=(q:Int)+1:=IntWalk.i64_in _ (by omega)
       have u3:(q:Int)+1<(S.length:Int):=by omega
       have u4:(0:Int)≤(q:Int)+1:=by omega
       have y0:wr.drew.cell? ⟨g,q,none⟩=some (.int .i64 x):=own_cell (w:=wr.drew) ho _ _ (ivs_at hx)
       have y1:wr.drew.cell? ⟨g,q+1,none⟩=some (.int .i64 y):=own_cell (w:=wr.drew) ho _ _ (ivs_at hy)
       have cf:∀W,Calls Tryz.prog 17 #[.string ⟨l.toArray⟩,.int .i64 x,.int .i64 k] W fun e w'=>e=.returned (.int .i64 y)∧Below W.heap.size W w':=fun W=>by
         have:=H.out.2.1 x W
         rwa [H.out.2.2.2.2.1 x (List.mem_of_getElem? hx),fwd_next H.out.2.2.2.1 _ hx hy] at this
       have cb:∀W,Calls Tryz.prog 18 #[.string ⟨l.toArray⟩,.int .i64 y,.int .i64 k] W fun e w'=>e=.returned (.int .i64 x)∧Below W.heap.size W w':=fun W=>by
         have:=H.out.2.2.1 y W
         rwa [H.out.2.2.2.2.1 y (List.mem_of_getElem? hy),bck_prev H.out.2.2.2.1 hx hy] at this
       have HC:=Lib.hid (And.intro cf (And.intro cb (And.intro hx hy)))
       have HW:Hid (wr.drew.ownsRow w1.heap.size 3 1 (.slice (some ⟨g,0,none⟩) S.length c2) S.length (ivs S)∧Below w.heap.size w wr.drew):=Lib.hid ⟨ho,below_drewN' hb 1⟩
       clear cf cb ho hb hx hy
       go_wp2_with fail
       go_region_held3 (fun w'=>w'.cell? ⟨g,q,none⟩=some (.int .i64 x)∧w'.cell? ⟨g,q+1,none⟩=some (.int .i64 y))
         (first
           | with_reducible exact⟨y0,y1⟩
           | go_keep)
         (first
           | (go_at_call 17
              refine(HC.out.1 _).mono ?_
              rintro e w5 ⟨rfl,hb5⟩
              have hs5:=HW.out.2.size
              have ho5:=own_below HW.out.1 hb5
              have y0:=own_cell ho5 _ _ (ivs_at HC.out.2.2.1)
              have y1:=own_cell ho5 _ _ (ivs_at HC.out.2.2.2)
              have HW:=Lib.hid (And.intro ho5 (HW.out.2.trans (hb5.mono hs5)))
              clear hb5 ho5 hs5)
           | (go_at_call 18
              refine(HC.out.2.1 _).mono ?_
              rintro e w5 ⟨rfl,hb5⟩
              have hs5:=HW.out.2.size
              have ho5:=own_below HW.out.1 hb5
              have y0:=own_cell ho5 _ _ (ivs_at HC.out.2.2.1)
              have y1:=own_cell ho5 _ _ (ivs_at HC.out.2.2.2)
              have HW:=Lib.hid (And.intro ho5 (HW.out.2.trans (hb5.mono hs5)))
              clear hb5 ho5 hs5))
       all_goals (
         go_wp2_with fail
         exact⟨⟨q+1,by omega,by go_num,HW.out⟩,by simp[intOf];omega⟩)
      ·have t1:decide ((q:Int)<(S.length:Int)-1)=false:=by simp;omega
       have HE:=Lib.hid (And.intro ho hb)
       clear ho hb
       go_wp2_with fail
       go_quiet (fail)
       go_wp2_with fail
       exact⟨⟨q+1,by omega,by go_num,HE.out.1,below_drewN' HE.out.2 _⟩,by simp[intOf];omega⟩
     ·obtain rfl:q=S.length:=by omega
      have y0:=own_cell ho _ _ (ivs_at H.out.2.2.2.2.2.1)
      have t1:decide ((0:Int)<(S.length:Int))=true:=by simp;omega
      have u3:(0:Int)<(S.length:Int):=by omega
      obtain⟨N,hN⟩:∃N:Nat,S.length=N+1:=⟨S.length-1,by omega⟩
      have y1:wr.cell? ⟨g,N,none⟩=some (.int .i64 (l.length:Int)):=by
        rw[show N=S.length-1 by omega]
        exact own_cell ho _ _ (ivs_at H.out.2.2.2.2.2.2)
      have HE:=Lib.hid (And.intro ho hb)
      clear ho hb
      go_wp2_with fail
      go_ret
      exact⟨rfl,HE.out.2⟩
  ·have t0:decide (60<(l.length:Int))=true:=by simp;omega
   go_enter Tryz.func8,Tryz.ntmps8
   go_wp2_with (
     (go_at_call 14
      refine(awake29_c _).mono ?_
      rintro e w1 ⟨rfl,hb⟩
      have H1:=Lib.hid hb
      clear hb))
   go_ret
   exact⟨rfl,H1.out⟩
end Go.Proofs.YtgdifhhioahakaaGreatDoor
