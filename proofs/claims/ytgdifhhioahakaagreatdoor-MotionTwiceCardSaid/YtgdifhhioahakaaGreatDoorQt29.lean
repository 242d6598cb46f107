/- Motion: quotes: the mates within a word. -/
import Derived.Test.YtgdifhhioahakaaGreatDoorEl29
namespace Go.Proofs.YtgdifhhioahakaaGreatDoor
open Go.RowKit
set_option linter.unusedVariables false
set_option linter.unusedSimpArgs false
set_option maxRecDepth 100000
attribute [local go_sem] Oper.semAt_some
abbrev encQ (x:Int×Int):Array Value:=#[.int .i64 x.1,.int .i64 x.2]
def YP (l':Nat) (N:List (Int×Int)) (n₀:Nat) (Xc:Nat→Prop) (J Jx:(Nat→Prop)→List (Int×Int)→World→Prop):Prop:=
  ∀X pre x W1,J X pre W1→pre++[x]<+:N→∀m,YieldAt Fence.wide m Tryz.prog l' (encQ x) W1 fun e W'=>
   (e=.returned (.bool true)∧J X (pre++[x]) W'∧KeepX n₀ Xc W1 W'∧∀k,X k→W'.heap[k]? = W1.heap[k]?)∨(e=.returned (.bool false)∧Jx X (pre++[x]) W'∧KeepX n₀ Xc W1 W'∧∀k,X k→W'.heap[k]? = W1.heap[k]?)
def qt1 (x:Lf) (q:Prt):List (Int×Int):=if (q.mode=12∨q.mode=13∨q.mode=14)∨q.op=true then [] else [(x.fr+q.fr,x.fr+q.to-1)]
def qtL (x:Lf):List (Int×Int):=(partsL x.tx).flatMap (qt1 x)
set_option maxHeartbeats 8000000 in
theorem quotes_in (n l':Nat) (N:List (Int×Int)) (n₀:Nat) (Xc X:Nat→Prop) (J Jx:(Nat→Prop)→List (Int×Int)→World→Prop) (hF:Fits J) (hY:YP l' N n₀ Xc J Jx) (x:Lf) (hl:x.tx.length≤900) (hx0:0≤x.fr) (hx1:x.fr≤1000000) (W:World) (pre:List (Int×Int))
    (hJ:D24 J W W n₀ Xc X X pre) (hN:pre++qtL x<+:N) :
    CallsIn Fence.wide n Tryz.prog 37 #[lfv x,.func (.yield l') #[] #[]] W fun e W'=>
      (e=.returned (.bool true)∧∃X',D24 J W W' n₀ Xc X X' (pre++qtL x))∨(e=.returned (.bool false)∧∃X' ys,Jx X' ys W'):=by
  obtain⟨P,hP⟩:∃P,P=partsL x.tx:=⟨_,rfl⟩
  have hof:=fun W=>of_m x.tx W hl
  have hpl:P.length≤100000:=by rw[hP];have:=parts_len x.tx;omega
  have hq:qtL x=P.flatMap (qt1 x):=by rw[hP];rfl
  have hpt:∀q∈P,∃pf pt:Nat,q.fr=(pf:Int)∧q.to=(pt:Int)∧pf<pt∧pt≤900:=fun q hq=>by
    rw[hP] at hq
    obtain⟨pf,pt,hp1,hp2,hp3,hp4,_⟩:=part_two hq
    exact⟨pf,pt,by omega,by omega,by omega,by omega⟩
  rw[←hP] at hof
  rw[hq] at hN ⊢
  have HC:=Lib.hid hof
  have HK:=Lib.hid (And.intro hY (And.intro hJ (And.intro hN hpt)))
  clear hof hY hJ hN hpt hq hP
  unfold lfv
  refine callsIn_of_wp Tryz.func37 rfl trivial ?_ rfl
  simp only[Tryz.ntmps37,List.size_toArray,List.length_cons,List.length_nil,Nat.reduceAdd,Nat.reduceSub,Array.replicate_succ,Array.replicate_zero,List.push_toArray,List.append_toArray,List.nil_append,List.cons_append]
  gi_wp2_with fail
  refine wpIn_wide.2 (wp_scope_straight ((wpIn_wide (n:=n)).1 ?_))
  gi_wp2_with fail
  refine wpIn_label ?_
  gi_wp2_with (first
    | (refine⟨trivial,fun h=>by simp[Fence.wide] at h,?_⟩
       gi_at_call 54
       refine(callsIn_wide.2 (HC.out _)).mono ?_
       rintro e w2 ⟨v2,rfl,ho,hb⟩
       obtain⟨A2,n2,c2,rfl⟩:=own_form' ho
       obtain rfl:=own_len ho
       have H2:=Lib.hid (And.intro ho hb)
       clear ho hb))
  obtain⟨W1,hW1⟩:∃W1,W1=W.alloc (.cells #[.int .i64 x.kd,.string ⟨x.tx.toArray⟩,.int .i64 x.fr,.int .i64 x.to] 80):=⟨_,rfl⟩
  have hb1:Below W.heap.size W W1:=by rw[hW1];exact(Below.refl _ _).alloc (Nat.le_refl _) _
  have hk1:Bk W1 W.heap.size 80 #[.int .i64 x.kd,.string ⟨x.tx.toArray⟩,.int .i64 x.fr,.int .i64 x.to]:=by rw[hW1];exact Bk.new _ _ _
  have hs1:W1.heap.size=W.heap.size+1:=by rw[hW1];simp
  have h2:=H2.out
  rw[←hW1] at h2
  have hst:∃X2,D24 J W w2 n₀ Xc X X2 pre∧Bk w2 W.heap.size 80 #[.int .i64 x.kd,.string ⟨x.tx.toArray⟩,.int .i64 x.fr,.int .i64 x.to]∧X2 W.heap.size∧w2.ownsRow 0 100 5 (.slice A2 P.length c2) P.length (pcells P)∧∀k,(Value.slice A2 P.length c2).ownBlock=some k→X2 k:=by
    have d1:=HK.out.2.1.below hF hb1
    exact⟨_,d1.below hF h2.2,hk1.below h2.2 hk1.lt,.inl (.inr ⟨Nat.le_refl _,by omega⟩),own_base h2.1 (Nat.zero_le _),fun k hk=>.inr (h2.1.lt k hk)⟩
  have HS:=Lib.hid hst
  obtain⟨bx,hbx⟩:∃bx,bx=W.heap.size:=⟨_,rfl⟩
  rw[←hbx] at HS ⊢
  clear hst h2 hb1 hk1 hs1 hW1 H2 hbx
  gi_loopw [11] (fun i wr=>∃(f:Nat) (X2:Nat→Prop),f≤P.length∧i=.int .i64 f∧D24 J W wr n₀ Xc X X2 (pre++(P.take f).flatMap (qt1 x))∧Bk wr bx 80 #[.int .i64 x.kd,.string ⟨x.tx.toArray⟩,.int .i64 x.fr,.int .i64 x.to]∧X2 bx∧wr.ownsRow 0 100 5 (.slice A2 P.length c2) P.length (pcells P)∧∀k,(Value.slice A2 P.length c2).ownBlock=some k→X2 k) (fun i _=>P.length-(intOf i).toNat)
  case atStart=>
    obtain⟨X2,h⟩:=HS.out
    exact⟨0,X2,Nat.zero_le _,rfl,by simpa using h.1,h.2⟩
  case round=>
    obtain⟨f,X2,hf,rfl,hd,hk,hxb,ho,hxo⟩:=hrel
    by_cases hfl:f<P.length
    ·have v0:(f:Int)<(P.length:Int):=by omega
     have v00:(0:Int)≤(f:Int):=by omega
     obtain⟨q,hq⟩:∃q,P[f]? = some q:=⟨_,List.getElem?_eq_getElem hfl⟩
     obtain⟨g2,o2,rfl,_,hc⟩:=rd_sat (lay:=pcell) (fun _=>rfl) (Rd.of_own ho) hq rfl
     obtain⟨M,hM⟩:∃M:Int,M=q.mode:=⟨_,rfl⟩
     obtain⟨O,hO⟩:∃O:Bool,O=q.op:=⟨_,rfl⟩
     obtain⟨pf,pt,hp1,hp2,hp3,hp4⟩:=HK.out.2.2.2 q (List.mem_of_getElem? hq)
     have z0:wr.cell? ⟨g2,o2+f*5,none⟩=some (.int .i64 M):=by rw[hM];exact hc 0 _ rfl
     have z1:wr.cell? ⟨g2,o2+f*5+1,none⟩=some (.int .i64 (pf:Int)):=by rw[←hp1];exact hc 1 _ rfl
     have z2:wr.cell? ⟨g2,o2+f*5+2,none⟩=some (.int .i64 (pt:Int)):=by rw[←hp2];exact hc 2 _ rfl
     have z3:wr.cell? ⟨g2,o2+f*5+3,none⟩=some (.int .i64 q.up):=hc 3 _ rfl
     have z4:wr.cell? ⟨g2,o2+f*5+4,none⟩=some (.bool O):=by rw[hO];exact hc 4 _ rfl
     have y2:wr.cell? ⟨bx,2,none⟩=some (.int .i64 x.fr):=by rw[hk.cell];rfl
     have hbl:=hk.lt
     have hsuc:=flatMap_take (qt1 x) hq
     have hpre:=flatMap_pre (qt1 x) P (f+1)
     obtain⟨wo,hwo⟩:∃wo:World,wo=wr.alloc (.cells #[.int .i64 M,.int .i64 (pf:Int),.int .i64 (pt:Int),.int .i64 q.up,.bool O] 100):=⟨_,rfl⟩
     have hbo:Below wr.heap.size wr wo:=by rw[hwo];exact(Below.refl _ _).alloc (Nat.le_refl _) _
     have hdo:=hd.below hF hbo
     have HR:=Lib.hid (And.intro hdo (And.intro (hk.below hbo hbl) (And.intro (show xNew X2 wr wo bx from .inl hxb) (And.intro (own_below ho hbo) (show ∀k,(Value.slice (some ⟨g2,o2,none⟩) P.length c2).ownBlock=some k→xNew X2 wr wo k from fun k hk=>.inl (hxo k hk))))))
     have w1:IntKind.i64.wrap (x.fr+(pf:Int))=x.fr+(pf:Int):=IntWalk.i64_in _ (by omega)
     have w2:IntKind.i64.wrap (x.fr+(pt:Int))=x.fr+(pt:Int):=IntWalk.i64_in _ (by omega)
     have w3:IntKind.i64.wrap (x.fr+(pt:Int)-1)=x.fr+(pt:Int)-1:=IntWalk.i64_in _ (by omega)
     have key:((M=12∨(M=13)∨(M=14)∨((M==12)=false∧(M==13)=false∧(M==14)=false∧O=true))∧qt1 x q=[])∨(((M==12)=false∧(M==13)=false∧(M==14)=false∧O=false)∧qt1 x q=[(x.fr+(pf:Int),x.fr+(pt:Int)-1)]):=by
       unfold qt1
       rw[←hM,←hO,hp1,hp2]
       by_cases h1:M=12
       ·exact .inl ⟨.inl h1,by simp[h1]⟩
       by_cases h2:M=13
       ·exact .inl ⟨.inr (.inl h2),by simp[h2]⟩
       by_cases h3:M=14
       ·exact .inl ⟨.inr (.inr (.inl h3)),by simp[h3]⟩
       cases O
       ·exact .inr ⟨⟨beq_false_of_ne h1,beq_false_of_ne h2,beq_false_of_ne h3,rfl⟩,by simp[h1,h2,h3]⟩
       ·exact .inl ⟨.inr (.inr (.inr ⟨beq_false_of_ne h1,beq_false_of_ne h2,beq_false_of_ne h3,rfl⟩)),by simp⟩
     clear hc hq hbo hdo hd hk hxb ho hxo hM hO hp1 hp2
     rcases key with ⟨hway,hE⟩|⟨⟨t1,t2,t3,rfl⟩,hE⟩
     ·rw[hE,List.append_nil] at hsuc
      have HX:=Lib.hid hsuc
      clear hsuc hpre hE
      rcases hway with rfl|rfl|rfl|⟨t1,t2,t3,rfl⟩
      all_goals (
        gi_wp2_with (first
          | ((with_reducible refine⟨fun f h=>?_,?_⟩);cases h))
        rw[←hwo]
        exact⟨⟨f+1,_,by omega,by go_num,by rw[HX.out];exact HR.out.1,HR.out.2⟩,by simp[intOf];omega⟩)
     ·rw[hE] at hsuc
      rw[hsuc] at hpre
      obtain⟨fn,tmps,assign,body,hy,hRR⟩:=HK.out.1 _ _ (x.fr+(pf:Int),x.fr+(pt:Int)-1) wo HR.out.1.j (by rw[List.append_assoc];exact((List.prefix_append_right_inj _).2 hpre).trans HK.out.2.2.1) (n-1)
      have hR2:=Lib.hid hRR
      simp only[encQ] at hy
      rw[hwo] at hy
      have hy2:=Lib.hid hy
      have HX:=Lib.hid hsuc
      clear hRR hy hpre hsuc hE
      gi_wp2_with fail
      rw[hy2.out]
      gi_wp2_with fail
      refine⟨fun h=>by simp[Fence.wide] at h,?_⟩
      rw[←hwo]
      refine hR2.out.mono ?_
      rintro e W3 (⟨rfl,hJ3,hk3,hx3⟩|⟨rfl,hJx3,hk3,hx3⟩)
      ·have H3:=Lib.hid (And.intro (HR.out.1.next hJ3 hk3 hx3) (And.intro ((hx3 _ HR.out.2.2.1).trans HR.out.2.1) (own_same HR.out.2.2.2.1 fun k hk=>hx3 k (HR.out.2.2.2.2 k hk))))
       clear hJ3 hk3 hx3
       gi_wp2_with fail
       exact⟨⟨f+1,_,by omega,by go_num,by rw[HX.out,←List.append_assoc];exact H3.out.1,H3.out.2.1,HR.out.2.2.1,H3.out.2.2,HR.out.2.2.2.2⟩,by simp[intOf];omega⟩
      ·have H3:=Lib.hid hJx3
       clear hJx3 hk3 hx3
       gi_wp2_with fail
       rw[Exit.noGoto_ret]
       refine bodyPost_ret (results_tmp rfl _ _ _) rfl ?_
       exact .inr ⟨rfl,_,_,H3.out⟩
    ·obtain rfl:f=P.length:=by omega
     have HE:=Lib.hid hd
     clear hd hk hxb ho hxo
     gi_wp2_with fail
     rw[Exit.noGoto_ret]
     refine bodyPost_ret (results_tmp rfl _ _ _) rfl ?_
     exact .inl ⟨rfl,X2,by have h:=HE.out;rwa [List.take_length] at h⟩
end Go.Proofs.YtgdifhhioahakaaGreatDoor
