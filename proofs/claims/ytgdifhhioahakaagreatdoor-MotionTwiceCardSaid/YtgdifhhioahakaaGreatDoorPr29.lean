/- Motion: pairs: the mates of a text, one by one. -/
import Derived.Test.YtgdifhhioahakaaGreatDoorQt29
import Derived.Test.YtgdifhhioahakaaGreatDoorLv29
namespace Go.Proofs.YtgdifhhioahakaaGreatDoor
open Go.RowKit
set_option linter.unusedVariables false
set_option linter.unusedSimpArgs false
set_option maxRecDepth 100000
attribute [local go_sem] Oper.semAt_some
def frAt (F:List Lf) (p:Nat):Int:=match F[p]? with|some y=>y.fr|none=>0
def ndP (F:List Lf) (L:List Nd) (k:Nat):List (Int×Int):=match L[k]? with
  | some x=>if endC x.kd=0 then [] else if 0≤lastL F L k x then [(frAt F x.fr,frAt F (lastL F L k x).toNat)] else []
  | none=>[]
def lfP (x:Lf):List (Int×Int):=if x.kd=6 then qtL x else []
def prL (l:List UInt8):List (Int×Int):=(List.range (parseT (lvs3 l)).l.length).flatMap (ndP (lvs3 l) (parseT (lvs3 l)).l)++(lvs3 l).flatMap lfP
structure PairOk (F:List Lf) (L:List Nd):Prop where
  fl:FL F L
  lf:∀y∈F,0≤y.fr∧y.fr≤1000000
  pr:∀k x,L[k]? = some x→endC x.kd≠0→0≤lastL F L k x→∃(y z:Lf) (j:Nat),F[x.fr]? = some y∧lastL F L k x=(j:Int)∧F[j]? = some z
def P29 (J:(Nat→Prop)→List (Int×Int)→World→Prop) (W wr:World) (n₀:Nat) (Xc:Nat→Prop) (A1:Option Addr) (c1:Nat) (F:List Lf) (A2:Option Addr) (c2:Nat) (L:List Nd) (X:Nat→Prop) (pr:List (Int×Int)):Prop:=
  D24 J W wr n₀ Xc (fun _=>False) X pr∧wr.ownsRow 0 80 4 (.slice A1 F.length c1) F.length (lfcs F)∧wr.ownsRow 0 76 4 (.slice A2 L.length c2) L.length (ndcs L)∧(∀k,(Value.slice A1 F.length c1).ownBlock=some k→X k)∧∀k,(Value.slice A2 L.length c2).ownBlock=some k→X k
section
variable {J:(Nat→Prop)→List (Int×Int)→World→Prop} {W wr w':World} {n₀:Nat} {Xc X:Nat→Prop} {A1 A2:Option Addr} {c1 c2:Nat} {F:List Lf} {L:List Nd} {pr pr':List (Int×Int)}
theorem P29.below (hF:Fits J) (h:P29 J W wr n₀ Xc A1 c1 F A2 c2 L X pr) (hb:Below wr.heap.size wr w'):P29 J W w' n₀ Xc A1 c1 F A2 c2 L (xNew X wr w') pr:=
  ⟨h.1.below hF hb,own_below h.2.1 hb,own_below h.2.2.1 hb,fun k hk=>.inl (h.2.2.2.1 k hk),fun k hk=>.inl (h.2.2.2.2 k hk)⟩
theorem P29.next (h:P29 J W wr n₀ Xc A1 c1 F A2 c2 L X pr) (hj:J X pr' w') (hk:KeepX n₀ Xc wr w') (hs:∀k,X k→w'.heap[k]? = wr.heap[k]?):P29 J W w' n₀ Xc A1 c1 F A2 c2 L X pr':=
  ⟨h.1.next hj hk hs,own_same h.2.1 fun k hk=>hs k (h.2.2.2.1 k hk),own_same h.2.2.1 fun k hk=>hs k (h.2.2.2.2 k hk),h.2.2.2⟩
end
theorem wpStill_skip {P:Program} {ops:Array Oper} {w:World} {Q:Act→Prop} {a:Act} {o:Oper} {rest:List Oper} (hw:Region.wanted o (yielded ops a.tmps)=false) (h:wpStill P ops w Q rest (a.put o.dst undef)):wpStill P ops w Q (o::rest) a:=by
  unfold wpStill
  rw[if_neg (by rw[hw];exact Bool.false_ne_true)]
  exact h
theorem wpStill_want {P:Program} {ops:Array Oper} {w:World} {Q:Act→Prop} {a:Act} {o:Oper} {rest:List Oper} (hw:Region.wanted o (yielded ops a.tmps)=true) (h:∀K:Act→Prop,(∀a,wpStill P ops w Q rest a→K a)→o.still P a w K):wpStill P ops w Q (o::rest) a:=by
  unfold wpStill
  rw[if_pos hw]
  exact h _ fun _ h=>h
set_option maxHeartbeats 16000000 in
theorem pairs_in (n l' Bn n₀:Nat) (Xc:Nat→Prop) (l:List UInt8) (hok:PairOk (lvs3 l) (parseT (lvs3 l)).l) (J Jx:(Nat→Prop)→List (Int×Int)→World→Prop) (hF:Fits J) (hY:YP l' (prL l) n₀ Xc J Jx) (hl:l.length≤900) (W:World) (hBn:Bk W Bn 9 #[.string ⟨l.toArray⟩]) (wn:n₀≤W.heap.size) (h0:J (fun _=>False) [] W) :
    CallsIn Fence.wide n Tryz.prog 33 #[.func (.yield l') #[] #[],.pointer (some ⟨Bn,0,none⟩)] W fun e W'=>(∃v,e=.returned v)∧((∃xs X,xs=prL l∧J X xs W')∨(∃pre X,True∧Jx X pre W')):=by
  have c1:=fun W=>pof_m l W hl
  unfold prL at hY ⊢
  obtain⟨F,hFe⟩:∃F,F=lvs3 l:=⟨_,rfl⟩
  rw[←hFe] at c1 hY hok ⊢
  obtain⟨L,hLe⟩:∃L,L=(parseT F).l:=⟨_,rfl⟩
  rw[←hLe] at c1 hY hok ⊢
  obtain⟨R,hRe⟩:∃R,R=List.range L.length:=⟨_,rfl⟩
  rw[←hRe] at hY ⊢
  have hRl:R.length=L.length:=by rw[hRe];simp
  have hRk:∀k,k<L.length→R[k]? = some k:=fun k hk=>by rw[hRe];simp[hk]
  have y0:W.cell? ⟨Bn,0,none⟩=some (.string ⟨l.toArray⟩):=by rw[hBn.cell];rfl
  have hll:=hok.fl.ln
  have hfl9:=hok.fl.fn
  have HC:=Lib.hid c1
  have HK:=Lib.hid (And.intro hY (And.intro h0 (And.intro hok (And.intro hRl hRk))))
  clear c1 hFe hLe hRe hY h0 hok hRl hRk hBn
  refine callsIn_of_wp Tryz.func33 rfl trivial ?_ rfl
  simp only[Tryz.ntmps33,List.size_toArray,List.length_cons,List.length_nil,Nat.reduceAdd,Nat.reduceSub,Array.replicate_succ,Array.replicate_zero,List.push_toArray,List.append_toArray,List.nil_append,List.cons_append]
  gi_wp2_with (first
    | (refine⟨trivial,fun h=>by simp[Fence.wide] at h,?_⟩
       gi_at_call 34
       refine(callsIn_wide.2 (HC.out _)).mono ?_
       rintro e w1 ⟨v1,v2,rfl,ho1,ho2,hb⟩
       obtain⟨A1,n1,c1,rfl⟩:=own_form' ho1
       obtain rfl:=own_len ho1
       obtain⟨A2,n2,c2,rfl⟩:=own_form' ho2
       obtain rfl:=own_len ho2
       have H1:=Lib.hid (And.intro ho1 (And.intro ho2 hb))
       clear ho1 ho2 hb))
  have hst:∃X,P29 J W w1 n₀ Xc A1 c1 F A2 c2 L X []:=by
    obtain⟨ho1,ho2,hb⟩:=H1.out
    exact⟨_,(D24.start (Xc:=Xc) HK.out.2.1 (fun k hk=>hk.elim) wn).below hF hb,own_base ho1 (Nat.zero_le _),own_base ho2 (Nat.zero_le _),fun k hk=>.inr (ho1.lt k hk),fun k hk=>.inr (ho2.lt k hk)⟩
  have HS:=Lib.hid hst
  clear hst y0
  gi_loopw [17] (fun i wr=>∃(k:Nat) (X:Nat→Prop),k≤L.length∧i=.int .i64 k∧P29 J W wr n₀ Xc A1 c1 F A2 c2 L X ((R.take k).flatMap (ndP F L))) (fun i _=>L.length-(intOf i).toNat)
  case atStart=>
    obtain⟨X,h⟩:=HS.out
    exact⟨0,X,Nat.zero_le _,rfl,h⟩
  case round=>
    obtain⟨k,X,hk,rfl,hp⟩:=hrel
    by_cases hkl:k<L.length
    ·have v0:(k:Int)<(L.length:Int):=by omega
     have v00:(0:Int)≤(k:Int):=by omega
     obtain⟨x,hx⟩:∃x,L[k]? = some x:=⟨_,List.getElem?_eq_getElem hkl⟩
     obtain⟨g2,o2,rfl,_,hc2⟩:=rd_sat ndc_len (Rd.of_own hp.2.2.1) hx rfl
     have z0:wr.cell? ⟨g2,o2+k*4,none⟩=some (.int .i64 (x.kd:Int)):=hc2 0 _ rfl
     have z1:wr.cell? ⟨g2,o2+k*4+1,none⟩=some (.int .i64 (x.fr:Int)):=hc2 1 _ rfl
     have z2:wr.cell? ⟨g2,o2+k*4+2,none⟩=some (.int .i64 (x.tt:Int)):=hc2 2 _ rfl
     have z3:wr.cell? ⟨g2,o2+k*4+3,none⟩=some (.int .i64 x.up):=hc2 3 _ rfl
     obtain⟨wo,hwo⟩:∃wo:World,wo=wr.alloc (.cells #[.int .i64 (x.kd:Int),.int .i64 (x.fr:Int),.int .i64 (x.tt:Int),.int .i64 x.up] 76):=⟨_,rfl⟩
     have hbo:Below wr.heap.size wr wo:=by rw[hwo];exact(Below.refl _ _).alloc (Nat.le_refl _) _
     have hko:Bk wo wr.heap.size 76 #[.int .i64 (x.kd:Int),.int .i64 (x.fr:Int),.int .i64 (x.tt:Int),.int .i64 x.up]:=by rw[hwo];exact Bk.new _ _ _
     have hso:wo.heap.size=wr.heap.size+1:=by rw[hwo];simp
     have hpo:=hp.below hF hbo
     have hsuc:=flatMap_take (ndP F L) (HK.out.2.2.2.2 k hkl)
     have hpre:=(flatMap_pre (ndP F L) R (k+1)).trans (List.prefix_append _ (F.flatMap lfP))
     have hnd:ndP F L k=if endC x.kd=0 then [] else if 0≤lastL F L k x then [(frAt F x.fr,frAt F (lastL F L k x).toNat)] else []:=by unfold ndP;rw[hx]
     have hE:=fun W=>ender_m x.kd W
     have hLc:=fun W hF hR=>lastk_m F L HK.out.2.2.1.fl A1 (some ⟨g2,o2,none⟩) c1 c2 k x hx W hF hR
     have hprs:=HK.out.2.2.1.pr k x hx
     have HR:=Lib.hid (And.intro hpo (And.intro hsuc (And.intro hpre (And.intro hE (And.intro hLc hko)))))
     clear hc2 hx hp hbo hpo hsuc hpre hE hLc hko
     obtain⟨sg,hsg⟩:∃sg,sg=endC x.kd:=⟨_,rfl⟩
     rw[←hsg] at hprs hnd
     have ht0:=u8_beq sg 0
     by_cases h0:sg=0
     ·rw[if_pos h0] at hnd
      have t1:(((endC x.kd).toNat:Int)==0)=true:=by rw[←hsg,h0];rfl
      have HX:=Lib.hid hnd
      clear hnd hprs ht0 h0 hsg
      gi_wp2_with (first
        | (refine⟨trivial,fun h=>by simp[Fence.wide] at h,?_⟩
           gi_at_call 35
           refine(callsIn_wide.2 (HR.out.2.2.2.1 _)).mono ?_
           rintro e w3 ⟨rfl,hw3⟩
           obtain rfl:=hw3.symm
           clear hw3)
        | ((with_reducible refine⟨fun f h=>?_,?_⟩);cases h))
      rw[←hwo]
      exact⟨⟨k+1,_,by omega,by go_num,by rw[HR.out.2.1,HX.out,List.append_nil];exact HR.out.1⟩,by simp[intOf];omega⟩
     ·rw[if_neg h0] at hnd
      have t1:(((endC x.kd).toNat:Int)==0)=false:=by rw[←hsg];exact ht0.trans (beq_false_of_ne h0)
      have hpr:=hprs h0
      obtain⟨jv,hjv⟩:∃jv:Int,jv=lastL F L k x:=⟨_,rfl⟩
      have hlc:=HR.out.2.2.2.2.1
      rw[←hjv] at hpr hnd hlc
      subst hwo
      have HL:=Lib.hid (And.intro hlc hnd)
      clear hprs ht0 h0 hsg hlc hnd hjv
      by_cases hj0:0≤jv
      ·obtain⟨y,z,j,hy,rfl,hz⟩:=hpr hj0
       obtain⟨g1,o1,rfl,_,_⟩:=rd_sat (lay:=lfc) lfc_len (Rd.of_own HR.out.1.2.1) hy rfl
       have hfy:=(List.getElem?_eq_some_iff.1 hy).1
       have hfz:=(List.getElem?_eq_some_iff.1 hz).1
       have w1':(x.fr:Int)<(F.length:Int):=by omega
       have w2':(0:Int)≤(x.fr:Int):=by omega
       have w3':(j:Int)<(F.length:Int):=by omega
       have w4':(0:Int)≤(j:Int):=by omega
       have w5':decide ((0:Int)≤(j:Int))=true:=by simp
       have hnd:ndP F L k=[(y.fr,z.fr)]:=by rw[HL.out.2,if_pos hj0];unfold frAt;rw[hy,Int.toNat_natCast,hz]
       have HY:=Lib.hid (And.intro hy (And.intro hz hnd))
       clear hy hz hnd hpr hj0
       gi_wp2_with (first
         | (refine⟨trivial,fun h=>by simp[Fence.wide] at h,?_⟩
            gi_at_call 35
            refine(callsIn_wide.2 (HR.out.2.2.2.1 _)).mono ?_
            rintro e w3 ⟨rfl,hw3⟩
            obtain rfl:=hw3.symm
            clear hw3)
         | (refine⟨trivial,fun h=>by simp[Fence.wide] at h,?_⟩
            gi_at_call 36
            refine(callsIn_wide.2 (HL.out.1 _ (Rd.of_own HR.out.1.2.1) (Rd.of_own HR.out.1.2.2.1))).mono ?_
            rintro e w5 ⟨rfl,hb5⟩
            have H5:=Lib.hid hb5
            clear hb5)
         | ((with_reducible refine⟨fun f h=>?_,?_⟩);cases h))
       have hp5:=(HR.out.1.below hF H5.out).below hF (Below.refl _ w5).drew
       obtain⟨_,_,he1,_,hcy⟩:=rd_sat (lay:=lfc) lfc_len (Rd.of_own (own_below HR.out.1.2.1 H5.out)) HY.out.1 rfl
       cases he1
       obtain⟨_,_,he1,_,hcz⟩:=rd_sat (lay:=lfc) lfc_len (Rd.of_own (own_below HR.out.1.2.1 H5.out)) HY.out.2.1 rfl
       cases he1
       have q1:w5.cell? ⟨g1,o1+x.fr*4+2,none⟩=some (.int .i64 y.fr):=hcy 2 _ rfl
       have q2:w5.cell? ⟨g1,o1+j*4+2,none⟩=some (.int .i64 z.fr):=hcz 2 _ rfl
       have hk5:=HR.out.2.2.2.2.2.below H5.out (by omega)
       have q3:w5.cell? ⟨wr.heap.size,1,none⟩=some (.int .i64 (x.fr:Int)):=by rw[hk5.cell];rfl
       have hsuc:=HR.out.2.1
       have hpre:=HR.out.2.2.1
       rw[HY.out.2.2] at hsuc
       rw[hsuc] at hpre
       obtain⟨fn,tmps,assign,body,hy,hRR⟩:=HK.out.1 _ _ (y.fr,z.fr) w5.drew hp5.1.j hpre (n-1)
       have hR2:=Lib.hid hRR
       simp only[encQ] at hy
       have hy2:=Lib.hid hy
       have HP:=Lib.hid (And.intro hp5 hsuc)
       clear hRR hy hpre hsuc hp5 hcy hcz hk5
       refine wpIn_region_hst 0 15 (by kernel_rfl) (by kernel_rfl) fun K hK=>?_
       simp only[List.take_succ_cons,List.take_zero,List.drop_succ_cons,List.drop_zero] at hK ⊢
       refine hK _ _ ?_
       clear hK K
       iterate 15 (refine wpStill_want (by kernel_rfl) (fun K hK=>?_);go_simp;refine hK _ ?_;clear hK K)
       refine wpStill_nil ?_
       gi_wp2_with (first
         | (rw[hy2.out]))
       refine⟨fun h=>by simp[Fence.wide] at h,?_⟩
       refine hR2.out.mono ?_
       rintro e W3 (⟨rfl,hJ3,hk3,hx3⟩|⟨rfl,hJx3,hk3,hx3⟩)
       ·have H3:=Lib.hid (HP.out.1.next hJ3 hk3 hx3)
        clear hJ3 hk3 hx3 q1 q2 q3
        gi_wp2_with fail
        exact⟨⟨k+1,_,by omega,by go_num,by rw[HP.out.2];exact H3.out⟩,by simp[intOf];omega⟩
       ·have H3:=Lib.hid hJx3
        clear hJx3 hk3 hx3 q1 q2 q3
        gi_wp2_with fail
        refine bodyPost_ret (results_none rfl _ _ _) rfl ?_
        exact⟨⟨_,rfl⟩,.inr ⟨_,_,trivial,H3.out⟩⟩
      ·have w5':decide ((0:Int)≤jv)=false:=by simpa using hj0
       have hnd:ndP F L k=[]:=by rw[HL.out.2,if_neg hj0]
       have HY:=Lib.hid hnd
       clear hnd hpr hj0
       gi_wp2_with (first
         | (refine⟨trivial,fun h=>by simp[Fence.wide] at h,?_⟩
            gi_at_call 35
            refine(callsIn_wide.2 (HR.out.2.2.2.1 _)).mono ?_
            rintro e w3 ⟨rfl,hw3⟩
            obtain rfl:=hw3.symm
            clear hw3)
         | (refine⟨trivial,fun h=>by simp[Fence.wide] at h,?_⟩
            gi_at_call 36
            refine(callsIn_wide.2 (HL.out.1 _ (Rd.of_own HR.out.1.2.1) (Rd.of_own HR.out.1.2.2.1))).mono ?_
            rintro e w5 ⟨rfl,hb5⟩
            have H5:=Lib.hid hb5
            clear hb5)
         | ((with_reducible refine⟨fun f h=>?_,?_⟩);cases h))
       refine(wpIn_wide (n:=n)).2 ?_
       go_quiet (fail)
       go_wp2_with fail
       gi_wp2_with fail
       exact⟨⟨k+1,_,by omega,by go_num,by rw[HR.out.2.1,HY.out,List.append_nil];exact(HR.out.1.below hF H5.out).below hF (below_drewN' (Below.refl _ w5) _)⟩,by simp[intOf];omega⟩
    ·obtain rfl:k=L.length:=by omega
     have hR0:R.take L.length=R:=by rw[←HK.out.2.2.2.1,List.take_length]
     rw[hR0] at hp
     have HE:=Lib.hid hp
     clear hp hR0
     gi_wp2_with fail
     gi_loopw [51] (fun i wr=>∃(f:Nat) (X:Nat→Prop),f≤F.length∧i=.int .i64 f∧P29 J W wr n₀ Xc A1 c1 F A2 c2 L X (R.flatMap (ndP F L)++(F.take f).flatMap lfP)) (fun i _=>F.length-(intOf i).toNat)
     case atStart=>exact⟨0,X,Nat.zero_le _,rfl,by rw[List.take_zero,List.flatMap_nil,List.append_nil];exact HE.out⟩
     case round=>
       obtain⟨f,X2,hf,rfl,hp⟩:=hrel
       by_cases hfl:f<F.length
       ·have v0:(f:Int)<(F.length:Int):=by omega
        have v00:(0:Int)≤(f:Int):=by omega
        obtain⟨x,hx⟩:∃x,F[f]? = some x:=⟨_,List.getElem?_eq_getElem hfl⟩
        obtain⟨g1,o1,rfl,_,hc1⟩:=rd_sat (lay:=lfc) lfc_len (Rd.of_own hp.2.1) hx rfl
        obtain⟨KD,hKD⟩:∃KD:Int,KD=x.kd:=⟨_,rfl⟩
        have z0:wr.cell? ⟨g1,o1+f*4,none⟩=some (.int .i64 KD):=by rw[hKD];exact hc1 0 _ rfl
        have z1:wr.cell? ⟨g1,o1+f*4+1,none⟩=some (.string ⟨x.tx.toArray⟩):=hc1 1 _ rfl
        have z2:wr.cell? ⟨g1,o1+f*4+2,none⟩=some (.int .i64 x.fr):=hc1 2 _ rfl
        have z3:wr.cell? ⟨g1,o1+f*4+3,none⟩=some (.int .i64 x.to):=hc1 3 _ rfl
        obtain⟨wo,hwo⟩:∃wo:World,wo=wr.alloc (.cells #[.int .i64 KD,.string ⟨x.tx.toArray⟩,.int .i64 x.fr,.int .i64 x.to] 80):=⟨_,rfl⟩
        have hbo:Below wr.heap.size wr wo:=by rw[hwo];exact(Below.refl _ _).alloc (Nat.le_refl _) _
        have hpo:=hp.below hF hbo
        have hsuc:=flatMap_take lfP hx
        have hpre:=(List.prefix_append_right_inj (R.flatMap (ndP F L))).2 (flatMap_pre lfP F (f+1))
        have hxf:=HK.out.2.2.1.lf x (List.mem_of_getElem? hx)
        have hxt:=HK.out.2.2.1.fl.tx x (List.mem_of_getElem? hx)
        have HR:=Lib.hid (And.intro hpo hsuc)
        clear hc1 hx hp hbo hpo
        by_cases h6:KD=6
        ·subst h6
         have e6:lfP x=qtL x:=by unfold lfP;rw[if_pos hKD.symm]
         rw[hsuc,e6,←List.append_assoc] at hpre
         have hq:=quotes_in (n-1) l' _ n₀ Xc _ J Jx hF HK.out.1 x hxt hxf.1 hxf.2 wo _ HR.out.1.1.here hpre
         unfold lfv at hq
         rw[←hKD,hwo] at hq
         have HQ:=Lib.hid (And.intro hq e6)
         clear hq e6 hsuc hpre hKD
         gi_wp2_with fail
         refine⟨trivial,fun h=>by simp[Fence.wide] at h,?_⟩
         refine HQ.out.1.mono ?_
         rintro e w9 (⟨rfl,X9,hd9⟩|⟨rfl,X9,ys,hx9⟩)
         ·rw[←hwo] at hd9
          have H9:=Lib.hid (And.intro (HR.out.1.1.then hd9) (And.intro (own_same HR.out.1.2.1 fun k hk=>hd9.sm k (HR.out.1.2.2.2.1 k hk)) (And.intro (own_same HR.out.1.2.2.1 fun k hk=>hd9.sm k (HR.out.1.2.2.2.2 k hk)) (And.intro (fun k hk=>hd9.xx k (HR.out.1.2.2.2.1 k hk)) (fun k hk=>hd9.xx k (HR.out.1.2.2.2.2 k hk))))))
          clear hd9
          gi_wp2_with fail
          exact⟨⟨f+1,X9,by omega,by go_num,by rw[HR.out.2,HQ.out.2,←List.append_assoc];exact⟨H9.out.1,H9.out.2⟩⟩,by simp[intOf];omega⟩
         ·have H9:=Lib.hid hx9
          clear hx9
          gi_wp2_with fail
          refine bodyPost_ret (results_none rfl _ _ _) rfl ?_
          exact⟨⟨_,rfl⟩,.inr ⟨_,_,trivial,H9.out⟩⟩
        ·have t1:(KD==6)=false:=beq_false_of_ne h6
         have e6:lfP x=[]:=by unfold lfP;rw[if_neg (by rw[←hKD];exact h6)]
         rw[e6,List.append_nil] at hsuc
         have HX:=Lib.hid hsuc
         clear hsuc hpre h6 e6 hKD
         gi_wp2_with (first
           | (refine⟨trivial,?_⟩))
         rw[←hwo]
         exact⟨⟨f+1,_,by omega,by go_num,by rw[HX.out];exact HR.out.1⟩,by simp[intOf];omega⟩
       ·obtain rfl:f=F.length:=by omega
        have HZ:=Lib.hid hp
        clear hp
        gi_wp2_with fail
        go_end0
        refine⟨⟨_,rfl⟩,.inl ⟨_,X2,rfl,?_⟩⟩
        have:=HZ.out.1.j
        rwa [List.take_length] at this
end Go.Proofs.YtgdifhhioahakaaGreatDoor
