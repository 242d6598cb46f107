/- Motion: commands: where top commands begin. -/
import Derived.Test.YtgdifhhioahakaaGreatDoorTo29
import Derived.Test.YtgdifhhioahakaaGreatDoorQc13
namespace Go.Proofs.YtgdifhhioahakaaGreatDoor
open Go.RowKit
set_option linter.unusedVariables false
set_option linter.unusedSimpArgs false
set_option maxRecDepth 100000
attribute [local go_sem] Oper.semAt_some
theorem Gd.node29 {N A k:Nat} {s:Ps} {f:Ps→Ps} (h:∀t:Ps,t.p=s.p→t.deep=s.deep→Gd N A t (f t)) (hk:1≤k∧k≤16:=by decide):Gd N (A+1) s (nodeP k f s):=Gd.node (h _ rfl rfl) ⟨hk.1,by omega,fun e=>by omega,fun e=>by omega⟩
theorem gd_parse29 (F:List Lf):Gd F.length 5 (ps0 0) (parseT F)∧(parseT F).p=F.length:=by
  have h:=fun t (ht:t.p=(ps0 0).p)=>gd_prog (gd_lstF F (F.length+1)) _ (t,false) rfl (by rw[ht];exact Nat.zero_le _)
  exact⟨Gd.node29 (A:=4) fun t ht _=>(h t ht).1,(h {ps0 0 with l:=(ps0 0).l++[⟨1,(ps0 0).p,0,(ps0 0).up⟩],up:=((ps0 0).l.length:Int)} rfl).2⟩
theorem parse_len29 (F:List Lf):(parseT F).l.length≤16*F.length+5:=by
  obtain⟨h1,h2⟩:=gd_parse29 F
  have h3:=h1.b
  rw[h2] at h3
  have e1:(ps0 0).l.length=0:=rfl
  have e2:(ps0 0).p=0:=rfl
  omega
def cmdAt (F:List Lf) (L:List Nd) (i:Nat):Nat:=match L[i]? with|some x=>(match F[x.fr]? with|some y=>y.fr.toNat|none=>0)|none=>0
def cmdL (l:List UInt8):List Nat:=(topK (parseT (lvs3 l)).l (parseT (lvs3 l)).l.length).map (cmdAt (lvs3 l) (parseT (lvs3 l)).l)
def CmdOk (l:List UInt8):Prop:=∀i∈topK (parseT (lvs3 l)).l (parseT (lvs3 l)).l.length,∃x y,(parseT (lvs3 l)).l[i]? = some x∧(lvs3 l)[x.fr]? = some y
theorem map_take {α β:Type} (g:α→β) {F:List α} {k:Nat} {x:α} (h:F[k]? = some x):(F.take (k+1)).map g=(F.take k).map g++[g x]:=by
  rw[List.take_add_one,h,List.map_append]
  rfl
theorem map_pre {α β:Type} (g:α→β) (F:List α) (k:Nat):(F.take k).map g<+:F.map g:=by
  rw[List.map_take];exact List.take_prefix _ _
theorem ics_at {l:List Nat} {k x:Nat} (h:l[k]? = some x):(ics l)[k]? = some (.int .i64 (x:Int)):=by
  unfold ics;rw[List.getElem?_map,h];rfl
theorem rd_at29 {w:World} {B sz n c:Nat} {A:Option Addr} {xs:List Value} (h:Rd w B sz (.slice A n c) n xs) (hn:0<n):∃g o,A=some ⟨g,o,none⟩∧g<B∧∀j u,xs[j]? = some u→w.cell? ⟨g,o+j,none⟩=some u:=by
  obtain⟨_,A',c',he,_,_,_,h2⟩:=h
  cases he
  exact h2 hn
set_option maxHeartbeats 8000000 in
theorem commands_in (n l' Bn n₀:Nat) (Xc:Nat→Prop) (l:List UInt8) (hok:CmdOk l) (J Jx:(Nat→Prop)→List Nat→World→Prop) (hF:Fits J) (hY:YC l' (cmdL l) n₀ Xc J Jx) (hl:l.length≤900) (W:World) (hBn:Bk W Bn 9 #[.string ⟨l.toArray⟩]) (hB1:Bn<n₀∧¬Xc Bn) (wn:n₀≤W.heap.size) (h0:J (fun _=>False) [] W) :
    CallsIn Fence.wide n Tryz.prog 63 #[.func (.yield l') #[] #[],.pointer (some ⟨Bn,0,none⟩)] W fun e W'=>(∃v,e=.returned v)∧((∃xs X,xs=cmdL l∧J X xs W')∨(∃pre X,True∧Jx X pre W')):=by
  obtain⟨F,hFe⟩:∃F,F=lvs3 l:=⟨_,rfl⟩
  have hpl:(parseT (lvs3 l)).l.length≤90000:=by
    have h1:=parse_len29 (lvs3 l)
    have h2:=(lvs3_fb l hl).n
    omega
  have c1:=fun W=>pof_m l W hl
  have hlv:cmdL l=(topK (parseT (lvs3 l)).l (parseT (lvs3 l)).l.length).map (cmdAt (lvs3 l) (parseT (lvs3 l)).l):=rfl
  have hfr:=lvs3_fr l
  unfold CmdOk at hok
  rw[←hFe] at c1 hfr hlv hok hpl
  obtain⟨L,hLe⟩:∃L,L=(parseT F).l:=⟨_,rfl⟩
  rw[←hLe] at c1 hlv hok hpl
  have c2:=fun (A:Option Addr) (c:Nat) W (hR:Rd W W.heap.size 4 (.slice A L.length c) L.length (ndcs L))=>Tops_m L hpl A c W hR
  have htn:=filt_len (topB L) L.length
  obtain⟨K,hKe⟩:∃K,K=topK L L.length:=⟨_,rfl⟩
  rw[←hKe] at hlv hok c2
  rw[show (List.range L.length).filter (topB L)=K from hKe.symm] at htn
  have hll:=(lvs3_fb l hl).n
  rw[←hFe] at hll
  rw[hlv] at hY
  have y0:W.cell? ⟨Bn,0,none⟩=some (.string ⟨l.toArray⟩):=by rw[hBn.cell];rfl
  have hBlt:=hBn.lt
  have HC:=Lib.hid (And.intro c1 c2)
  have HK:=Lib.hid (And.intro hY (And.intro h0 (And.intro hfr (And.intro hlv hok))))
  clear c1 c2 hFe hLe hKe hY hBn hB1 h0 hfr hlv hok
  refine callsIn_of_wp Tryz.func63 rfl trivial ?_ rfl
  simp only[Tryz.ntmps63,List.size_toArray,List.length_cons,List.length_nil,Nat.reduceAdd,Nat.reduceSub,Array.replicate_succ,Array.replicate_zero,List.push_toArray,List.append_toArray,List.nil_append,List.cons_append]
  gi_wp2_with (first
    | (refine⟨trivial,fun h=>by simp[Fence.wide] at h,?_⟩
       gi_at_call 34
       refine(callsIn_wide.2 (HC.out.1 _)).mono ?_
       rintro e w1 ⟨v1,v2,rfl,ho1,ho2,hb⟩
       obtain⟨A1,n1,c1,rfl⟩:=own_form' ho1
       obtain rfl:=own_len ho1
       obtain⟨A2,n2,c2,rfl⟩:=own_form' ho2
       obtain rfl:=own_len ho2
       have H1:=Lib.hid (And.intro ho1 (And.intro ho2 hb))
       clear ho1 ho2 hb)
    | (refine⟨trivial,fun h=>by simp[Fence.wide] at h,?_⟩
       gi_at_call 64
       refine(callsIn_wide.2 (HC.out.2 _ _ _ (Rd.of_own H1.out.2.1))).mono ?_
       rintro e w2 ⟨v2,rfl,ho,hb⟩
       obtain⟨A4,n4,c4,rfl⟩:=own_form' ho
       obtain rfl:=own_len ho
       have H2:=Lib.hid (And.intro (own_below H1.out.1 hb) (And.intro (own_below H1.out.2.1 hb) (And.intro (own_base ho H1.out.2.2.size) (H1.out.2.2.trans (hb.mono H1.out.2.2.size)))))
       clear ho hb))
  have hd0:=(D24.start (Xc:=Xc) HK.out.2.1 (fun k hk=>hk.elim) wn).below hF H2.out.2.2.2
  have hx1:∀k,(Value.slice A1 F.length c1).ownBlock=some k→xNew (fun _=>False) W w2 k:=fun k hk=>.inr (H2.out.1.lt k hk)
  have hx2:∀k,(Value.slice A2 L.length c2).ownBlock=some k→xNew (fun _=>False) W w2 k:=fun k hk=>.inr (H2.out.2.1.lt k hk)
  have hx3:∀k,(Value.slice A4 K.length c4).ownBlock=some k→xNew (fun _=>False) W w2 k:=fun k hk=>.inr (H2.out.2.2.1.lt k hk)
  have HS:=Lib.hid (And.intro hd0 (And.intro hx1 (And.intro hx2 hx3)))
  clear hd0 hx1 hx2 hx3 y0
  gi_loopw [15] (fun i wr=>∃(f:Nat) (X:Nat→Prop),f≤K.length∧i=.int .i64 f∧D24 J W wr n₀ Xc (fun _=>False) X ((K.take f).map (cmdAt F L))∧(wr.ownsRow W.heap.size 80 4 (.slice A1 F.length c1) F.length (lfcs F)∧wr.ownsRow W.heap.size 76 4 (.slice A2 L.length c2) L.length (ndcs L)∧wr.ownsRow W.heap.size 3 1 (.slice A4 K.length c4) K.length (ics K))∧(∀k,(Value.slice A1 F.length c1).ownBlock=some k→X k)∧(∀k,(Value.slice A2 L.length c2).ownBlock=some k→X k)∧∀k,(Value.slice A4 K.length c4).ownBlock=some k→X k) (fun i _=>K.length-(intOf i).toNat)
  case atStart=>exact⟨0,_,Nat.zero_le _,rfl,HS.out.1,⟨H2.out.1,H2.out.2.1,H2.out.2.2.1⟩,HS.out.2⟩
  case round=>
    obtain⟨f,X,hf,rfl,hd,ho,hxo⟩:=hrel
    by_cases hfl:f<K.length
    ·have v0:(f:Int)<(K.length:Int):=by omega
     have v00:(0:Int)≤(f:Int):=by omega
     obtain⟨i,hi⟩:∃i,K[f]? = some i:=⟨_,List.getElem?_eq_getElem hfl⟩
     obtain⟨x,y,hx,hy⟩:=HK.out.2.2.2.2 i (List.mem_of_getElem? hi)
     obtain⟨g4,o4,rfl,_,q4⟩:=rd_at29 (Rd.of_own ho.2.2) (by omega)
     have q4:wr.cell? ⟨g4,o4+f,none⟩=some (.int .i64 (i:Int)):=q4 f _ (ics_at hi)
     obtain⟨g2,o2,rfl,_,hc2⟩:=rd_sat (lay:=ndc) ndc_len (Rd.of_own ho.2.1) hx rfl
     obtain⟨g1,o1,rfl,_,hc1⟩:=rd_sat (lay:=lfc) lfc_len (Rd.of_own ho.1) hy rfl
     have q2:wr.cell? ⟨g2,o2+i*4+1,none⟩=some (.int .i64 (x.fr:Int)):=hc2 1 _ rfl
     have q1:wr.cell? ⟨g1,o1+x.fr*4+2,none⟩=some (.int .i64 y.fr):=hc1 2 _ rfl
     have u1:(i:Int)<(L.length:Int):=by have:=(List.getElem?_eq_some_iff.1 hx).1;omega
     have u2:(0:Int)≤(i:Int):=by omega
     have u3:(x.fr:Int)<(F.length:Int):=by have:=(List.getElem?_eq_some_iff.1 hy).1;omega
     have u4:(0:Int)≤(x.fr:Int):=by omega
     have hfr:=HK.out.2.2.1 y (List.mem_of_getElem? hy)
     have hsuc:=map_take (cmdAt F L) hi
     have e1:cmdAt F L i=y.fr.toNat:=by unfold cmdAt;rw[hx];simp only;rw[hy]
     rw[e1] at hsuc
     have hpre:=map_pre (cmdAt F L) K (f+1)
     rw[hsuc] at hpre
     obtain⟨fn,tmps,assign,body,hy',hR⟩:=HK.out.1 _ _ y.fr.toNat wr hd.j hpre (n-1)
     have hR2:=Lib.hid hR
     simp only[encC] at hy'
     rw[Int.toNat_of_nonneg hfr] at hy'
     have hy2:=Lib.hid hy'
     have HR:=Lib.hid (And.intro hd (And.intro ho (And.intro hxo hsuc)))
     clear hc1 hc2 hi hx hy hd ho hxo hR hy' hpre hsuc e1
     gi_wp2_with fail
     rw[hy2.out]
     gi_wp2_with fail
     refine⟨fun h=>by simp[Fence.wide] at h,?_⟩
     refine hR2.out.mono ?_
     rintro e W3 (⟨rfl,hJ3,hk3,hx3⟩|⟨rfl,hJx3,hk3,hx3⟩)
     ·have H3:=Lib.hid (And.intro (HR.out.1.next hJ3 hk3 hx3) (And.intro (own_same HR.out.2.1.1 fun k hk=>hx3 k (HR.out.2.2.1.1 k hk)) (And.intro (own_same HR.out.2.1.2.1 fun k hk=>hx3 k (HR.out.2.2.1.2.1 k hk)) (own_same HR.out.2.1.2.2 fun k hk=>hx3 k (HR.out.2.2.1.2.2 k hk)))))
      clear hJ3 hk3 hx3
      gi_wp2_with fail
      exact⟨⟨f+1,_,by omega,by go_num,by rw[HR.out.2.2.2];exact H3.out.1,H3.out.2,HR.out.2.2.1⟩,by simp[intOf];omega⟩
     ·have H3:=Lib.hid hJx3
      clear hJx3 hk3 hx3
      gi_wp2_with fail
      refine bodyPost_ret (results_none rfl _ _ _) rfl ?_
      exact⟨⟨_,rfl⟩,.inr ⟨_,_,trivial,H3.out⟩⟩
    ·obtain rfl:f=K.length:=by omega
     have HE:=Lib.hid hd
     clear hd ho hxo
     gi_wp2_with fail
     go_end0
     refine⟨⟨_,rfl⟩,.inl ⟨X,?_⟩⟩
     rw[HK.out.2.2.2.1]
     have:=HE.out.j
     rwa [List.take_length] at this
theorem commands_p (l:List UInt8) (w:World) :
    Calls Tryz.prog 47 #[.string ⟨l.toArray⟩] w fun e w'=>e=.returned (.func (.func 63) #[] #[.pointer (some ⟨w.heap.size,0,none⟩)])∧w'=w.alloc (.cells #[.string ⟨l.toArray⟩] 9):=by
  go_enter Tryz.func47,Tryz.ntmps47
  go_wp2
  go_ret
  exact⟨rfl,rfl⟩
theorem commands_it (l:List UInt8) (hok:CmdOk l) (hl:l.length≤900) (w:World) :
    Calls Tryz.prog 47 #[.string ⟨l.toArray⟩] w fun e w'=>∃gf lb,e=.returned (.func (.func gf) #[] lb)∧IterI gf lb (cmdL l) w'∧Below w.heap.size w w':=by
  refine(commands_p l w).mono ?_
  rintro e w' ⟨rfl,hw⟩
  have hs:w'.heap.size=w.heap.size+1:=by rw[hw];simp
  have k1:Bk w' w.heap.size 9 #[.string ⟨l.toArray⟩]:=by rw[hw];exact Bk.new w _ _
  refine⟨_,_,rfl,⟨enters_of Tryz.func63 (by kernel_rfl) rfl,fun W0 hW0=>?_⟩,by rw[hw];exact(Below.refl _ w).alloc (Nat.le_refl _) _⟩
  intro n l' J Jx W hW hF _ hY hJ
  have hb:=hW0.trans (hW.mono hW0.size)
  exact commands_in n l' _ w'.heap.size _ l hok J Jx hF hY hl W (k1.below hb k1.lt) ⟨by omega,fun h=>h⟩ hb.size hJ
end Go.Proofs.YtgdifhhioahakaaGreatDoor
