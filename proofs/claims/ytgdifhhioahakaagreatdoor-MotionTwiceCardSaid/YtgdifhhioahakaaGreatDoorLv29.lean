/- Motion: leaves: where leaves begin that are no Newlines. -/
import Derived.Test.YtgdifhhioahakaaGreatDoorBo29
namespace Go.Proofs.YtgdifhhioahakaaGreatDoor
open Go.RowKit
set_option linter.unusedVariables false
set_option linter.unusedSimpArgs false
set_option maxRecDepth 100000
attribute [local go_sem] Oper.semAt_some
theorem flatMap_take {α β:Type} (g:α→List β) {F:List α} {k:Nat} {x:α} (h:F[k]? = some x):(F.take (k+1)).flatMap g=(F.take k).flatMap g++g x:=by
  rw[List.take_add_one,h,List.flatMap_append]
  simp
theorem flatMap_pre {α β:Type} (g:α→List β) (F:List α) (k:Nat):(F.take k).flatMap g<+:F.flatMap g:=by
  refine⟨(F.drop k).flatMap g,?_⟩
  rw[←List.flatMap_append,List.take_append_drop]
def lv1 (x:Lf):List Nat:=if x.kd=2 then [] else [x.fr.toNat]
def lvB (l:List UInt8):List Nat:=(lvs3 l).flatMap lv1
theorem leafZ_fr {l:List UInt8} {t:Tz} {x:Lf} (h:x∈leafZ l t):0≤x.fr∧x.fr=t.fr∧x.kd=t.kd∧x.to=t.to:=by
  unfold leafZ at h
  split at h
  ·rename_i hc
   simp only[List.mem_singleton] at h
   subst h
   have h1:=hc.1
   unfold inZ at h1
   simp only[Bool.and_eq_true,decide_eq_true_eq] at h1
   exact⟨h1.1.1,rfl,rfl,rfl⟩
  ·simp at h
theorem lvs3_fr (l:List UInt8):∀x∈lvs3 l,0≤x.fr:=fun x hx=>by
  obtain⟨t,_,ht⟩:=List.mem_flatMap.1 hx
  exact(leafZ_fr ht).1
theorem flatMap_le {α β:Type} (g:α→List β) (h:∀x,(g x).length≤1):∀F:List α,(F.flatMap g).length≤F.length
  | []=>Nat.le_refl _
  | x::r=>by
    have:=flatMap_le g h r
    have:=h x
    rw[List.flatMap_cons,List.length_append,List.length_cons]
    omega
theorem lv1_len (x:Lf):(lv1 x).length≤1:=by unfold lv1;split<;>simp
set_option maxHeartbeats 8000000 in
theorem leaves_in (n l' Bn n₀:Nat) (Xc:Nat→Prop) (l:List UInt8) (J Jx:(Nat→Prop)→List Nat→World→Prop) (hF:Fits J) (hY:YC l' (lvB l) n₀ Xc J Jx) (hl:l.length≤900) (W:World) (hBn:Bk W Bn 9 #[.string ⟨l.toArray⟩]) (hB1:Bn<n₀∧¬Xc Bn) (wn:n₀≤W.heap.size) (h0:J (fun _=>False) [] W) :
    CallsIn Fence.wide n Tryz.prog 62 #[.func (.yield l') #[] #[],.pointer (some ⟨Bn,0,none⟩)] W fun e W'=>(∃v,e=.returned v)∧((∃xs X,xs=lvB l∧J X xs W')∨(∃pre X,True∧Jx X pre W')):=by
  obtain⟨F,hFe⟩:∃F,F=lvs3 l:=⟨_,rfl⟩
  obtain⟨ts,hts⟩:∃ts,ts=(lexL l).1:=⟨_,rfl⟩
  have hfb:=lvs3_fb l hl
  have c1:=fun W=>lex_m l W hl
  have c2:=fun (A:Option Addr) (c:Nat) W (hR:Rd W W.heap.size 4 (.slice A ((lexL l).1.map tz3).length c) ((lexL l).1.map tz3).length (((lexL l).1.map tz3).flatMap tzc))=>leaves_z l ((lexL l).1.map tz3) A c W (by omega) (by rw[List.length_map];have:=lexL_len l;omega) hR
  rw[show leavesZ l ((lexL l).1.map tz3)=lvs3 l from rfl] at c2
  rw[List.length_map,←tkcs_tz3] at c2
  have hFn:=hfb.n
  have hfr:=lvs3_fr l
  have hlv:lvB l=F.flatMap lv1:=by rw[hFe];rfl
  clear hfb
  rw[←hts] at c1 c2
  rw[←hFe] at c2 hFn hfr
  rw[hlv] at hY
  obtain⟨Y,hYY⟩:∃Y,Y=(lexL l).2:=⟨_,rfl⟩
  rw[←hYY] at c1
  have y0:W.cell? ⟨Bn,0,none⟩=some (.string ⟨l.toArray⟩):=by rw[hBn.cell];rfl
  have hBlt:=hBn.lt
  have HC:=Lib.hid (And.intro c1 c2)
  have HK:=Lib.hid (And.intro hY (And.intro hBn (And.intro h0 (And.intro hfr hlv))))
  clear c1 c2 hFe hts hYY hY hBn hB1 h0 hfr hlv
  refine callsIn_of_wp Tryz.func62 rfl trivial ?_ rfl
  simp only[Tryz.ntmps62,List.size_toArray,List.length_cons,List.length_nil,Nat.reduceAdd,Nat.reduceSub,Array.replicate_succ,Array.replicate_zero,List.push_toArray,List.append_toArray,List.nil_append,List.cons_append]
  gi_wp2_with (first
    | (refine⟨trivial,fun h=>by simp[Fence.wide] at h,?_⟩
       gi_at_call 26
       refine(callsIn_wide.2 (HC.out.1 _)).mono ?_
       rintro e w1 ⟨v1,v2,rfl,ho,⟨v3,rfl,hr⟩,hb⟩
       obtain⟨A1,n1,c1,rfl⟩:=own_form' ho
       obtain rfl:=own_len ho
       obtain⟨A3,c3,rfl⟩:=hr.form
       unfold lxv
       have hba:Below w1.heap.size w1 (w1.alloc (.cells #[.int .i64 Y.aw,.slice A3 Y.pd.length c3,.bool Y.bd] 56)):=(Below.refl _ w1).alloc (Nat.le_refl _) _
       have k0:=(HK.out.2.1.below hb hBlt).below hba (by have:=hb.size;omega)
       have y0:(w1.alloc (.cells #[.int .i64 Y.aw,.slice A3 Y.pd.length c3,.bool Y.bd] 56)).cell? ⟨Bn,0,none⟩=some (.string ⟨l.toArray⟩):=by rw[k0.cell];rfl
       have H1:=Lib.hid (And.intro (own_below ho hba) (hb.trans (hba.mono hb.size)))
       clear ho hb hr hba k0)
    | (refine⟨trivial,fun h=>by simp[Fence.wide] at h,?_⟩
       gi_at_call 28
       refine(callsIn_wide.2 (HC.out.2 _ _ _ (Rd.of_own H1.out.1))).mono ?_
       rintro e w2 ⟨v2,rfl,ho,hb⟩
       obtain⟨A4,n4,c4,rfl⟩:=own_form' ho
       obtain rfl:=own_len ho
       have H2:=Lib.hid (And.intro (own_base ho H1.out.2.size) (H1.out.2.trans (hb.mono H1.out.2.size)))
       clear ho hb))
  have hd0:=(D24.start (Xc:=Xc) HK.out.2.2.1 (fun k hk=>hk.elim) wn).below hF H2.out.2
  have hx0:∀k,(Value.slice A4 F.length c4).ownBlock=some k→xNew (fun _=>False) W w2 k:=fun k hk=>.inr (H2.out.1.lt k hk)
  have HS:=Lib.hid (And.intro hd0 hx0)
  clear hd0 hx0 y0
  gi_loopw [16] (fun i wr=>∃(f:Nat) (X:Nat→Prop),f≤F.length∧i=.int .i64 f∧D24 J W wr n₀ Xc (fun _=>False) X ((F.take f).flatMap lv1)∧wr.ownsRow W.heap.size 80 4 (.slice A4 F.length c4) F.length (lfcs F)∧∀k,(Value.slice A4 F.length c4).ownBlock=some k→X k) (fun i _=>F.length-(intOf i).toNat)
  case atStart=>exact⟨0,_,Nat.zero_le _,rfl,HS.out.1,H2.out.1,HS.out.2⟩
  case round=>
    obtain⟨f,X,hf,rfl,hd,ho,hxo⟩:=hrel
    by_cases hfl:f<F.length
    ·have v0:(f:Int)<(F.length:Int):=by omega
     have v00:(0:Int)≤(f:Int):=by omega
     obtain⟨t,ht⟩:∃t,F[f]? = some t:=⟨_,List.getElem?_eq_getElem hfl⟩
     obtain⟨g1,o1,rfl,hg1,hc1⟩:=rd_sat (lay:=lfc) lfc_len (Rd.of_own ho) ht rfl
     have q0:wr.cell? ⟨g1,o1+f*4,none⟩=some (.int .i64 t.kd):=hc1 0 _ rfl
     have q1:wr.cell? ⟨g1,o1+f*4+1,none⟩=some (.string ⟨t.tx.toArray⟩):=hc1 1 _ rfl
     have q2:wr.cell? ⟨g1,o1+f*4+2,none⟩=some (.int .i64 t.fr):=hc1 2 _ rfl
     have q3:wr.cell? ⟨g1,o1+f*4+3,none⟩=some (.int .i64 t.to):=hc1 3 _ rfl
     have hfr:=HK.out.2.2.2.1 t (List.mem_of_getElem? ht)
     have hsuc:=flatMap_take lv1 ht
     have hpre:=flatMap_pre lv1 F (f+1)
     obtain⟨wo,hwo⟩:∃wo:World,wo=wr.alloc (.cells #[.int .i64 t.kd,.string ⟨t.tx.toArray⟩,.int .i64 t.fr,.int .i64 t.to] 80):=⟨_,rfl⟩
     have hbo:Below wr.heap.size wr wo:=by rw[hwo];exact(Below.refl _ _).alloc (Nat.le_refl _) _
     have hdo:=hd.below hF hbo
     have hoo:=own_below ho hbo
     have HR:=Lib.hid (And.intro hdo (And.intro hoo (And.intro (show ∀k,(Value.slice (some ⟨g1,o1,none⟩) F.length c4).ownBlock=some k→xNew X wr wo k from fun k hk=>.inl (hxo k hk)) hsuc)))
     clear hc1 hg1 ht hbo hdo hoo hd ho hxo
     by_cases h2:t.kd=2
     ·have t1:(t.kd != 2)=false:=by simp[h2]
      have hs2:=HR.out.2.2.2
      rw[show lv1 t=[] by unfold lv1;rw[if_pos h2],List.append_nil] at hs2
      have HX:=Lib.hid hs2
      clear hs2 hsuc hpre h2
      gi_wp2_with (first
        | ((with_reducible refine⟨fun f h=>?_,?_⟩);cases h))
      rw[←hwo]
      exact⟨⟨f+1,_,by omega,by go_num,by rw[HX.out];exact HR.out.1,HR.out.2.1,HR.out.2.2.1⟩,by simp[intOf];omega⟩
     ·have t1:(t.kd != 2)=true:=by simp[h2]
      have e1:lv1 t=[t.fr.toNat]:=by unfold lv1;rw[if_neg h2]
      rw[e1] at hsuc
      rw[hsuc] at hpre
      obtain⟨fn,tmps,assign,body,hy,hR⟩:=HK.out.1 _ _ t.fr.toNat wo HR.out.1.j hpre (n-1)
      have hR2:=Lib.hid hR
      simp only[encC] at hy
      rw[Int.toNat_of_nonneg hfr] at hy
      rw[hwo] at hy
      have hy2:=Lib.hid hy
      have HX:=Lib.hid hsuc
      clear hR hy hpre h2 hsuc e1
      gi_wp2_with fail
      rw[hy2.out]
      gi_wp2_with fail
      refine⟨fun h=>by simp[Fence.wide] at h,?_⟩
      rw[←hwo]
      refine hR2.out.mono ?_
      rintro e W3 (⟨rfl,hJ3,hk3,hx3⟩|⟨rfl,hJx3,hk3,hx3⟩)
      ·have H3:=Lib.hid (And.intro (HR.out.1.next hJ3 hk3 hx3) (own_same HR.out.2.1 fun k hk=>hx3 k (HR.out.2.2.1 k hk)))
       clear hJ3 hk3 hx3
       gi_wp2_with fail
       exact⟨⟨f+1,_,by omega,by go_num,by rw[HX.out];exact H3.out.1,H3.out.2,HR.out.2.2.1⟩,by simp[intOf];omega⟩
      ·have H3:=Lib.hid hJx3
       clear hJx3 hk3 hx3
       gi_wp2_with fail
       refine bodyPost_ret (results_none rfl _ _ _) rfl ?_
       exact⟨⟨_,rfl⟩,.inr ⟨_,_,trivial,H3.out⟩⟩
    ·obtain rfl:f=F.length:=by omega
     have HE:=Lib.hid hd
     clear hd ho hxo
     gi_wp2_with fail
     go_end0
     refine⟨⟨_,rfl⟩,.inl ⟨X,?_⟩⟩
     rw[HK.out.2.2.2.2]
     have:=HE.out.j
     rwa [List.take_length] at this
theorem leaves_p (l:List UInt8) (w:World) :
    Calls Tryz.prog 46 #[.string ⟨l.toArray⟩] w fun e w'=>e=.returned (.func (.func 62) #[] #[.pointer (some ⟨w.heap.size,0,none⟩)])∧w'=w.alloc (.cells #[.string ⟨l.toArray⟩] 9):=by
  go_enter Tryz.func46,Tryz.ntmps46
  go_wp2
  go_ret
  exact⟨rfl,rfl⟩
theorem leaves_it (l:List UInt8) (hl:l.length≤900) (w:World) :
    Calls Tryz.prog 46 #[.string ⟨l.toArray⟩] w fun e w'=>∃gf lb,e=.returned (.func (.func gf) #[] lb)∧IterI gf lb (lvB l) w'∧Below w.heap.size w w':=by
  refine(leaves_p l w).mono ?_
  rintro e w' ⟨rfl,hw⟩
  have hs:w'.heap.size=w.heap.size+1:=by rw[hw];simp
  have k1:Bk w' w.heap.size 9 #[.string ⟨l.toArray⟩]:=by rw[hw];exact Bk.new w _ _
  refine⟨_,_,rfl,⟨enters_of Tryz.func62 (by kernel_rfl) rfl,fun W0 hW0=>?_⟩,by rw[hw];exact(Below.refl _ w).alloc (Nat.le_refl _) _⟩
  intro n l' J Jx W hW hF _ hY hJ
  have hb:=hW0.trans (hW.mono hW0.size)
  exact leaves_in n l' _ w'.heap.size _ l J Jx hF hY hl W (k1.below hb k1.lt) ⟨by omega,fun h=>h⟩ hb.size hJ
end Go.Proofs.YtgdifhhioahakaaGreatDoor
