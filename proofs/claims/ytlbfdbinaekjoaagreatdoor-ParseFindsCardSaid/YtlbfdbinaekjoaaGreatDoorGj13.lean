/- quillwortref12.Fits: the walk. -/
import Derived.Test.YtlbfdbinaekjoaaGreatDoorGi13
import Derived.Test.YtlbfdbinaekjoaaGreatDoorRj13
namespace Go.Proofs.YtlbfdbinaekjoaaGreatDoor
open Go.RowKit
set_option linter.unusedVariables false
set_option linter.unusedSimpArgs false
set_option maxRecDepth 100000
theorem fstS_len {F:List Lf} (hF:FB F) (i:Nat):∀l,(fstS F i l).length≤1000
  | []=>Nat.zero_le _
  | n::r=>by
    unfold fstS
    split
    ·unfold tx
     cases hx:F[n.fr]? with
     | none=>exact Nat.zero_le _
     | some f=>exact hF.t f (List.mem_of_getElem? hx)
    ·exact fstS_len hF i r
theorem wsgn_ne {s:List UInt8} (h:s≠[101,115,97,99]):wsgn s≠122:=by
  have key:wsgn s∈([33,123,125,105,116,101,108,102,119,100,103,114,107,99,120]:List UInt8):=by
    unfold wsgn
    rw[if_neg h]
    by_cases h:s=[33]∨s=[123]∨s=[125]
    ·rw[if_pos h]
     rcases h with rfl|rfl|rfl<;>decide
    ·rw[if_neg h]
     repeat' (first|decide|refine ite_in ?_ ?_)
  intro e
  rw[e] at key
  exact absurd key (by decide)
def FitE (F:List Lf) (L:List Nd) (i:Nat) (x:Nd) (w:World) (e:Ending) (w':World):Prop:=∃b:Bool,e=.returned (.bool b)∧(b=true→FitL F L i x)∧Below w.heap.size w w'
theorem fitE_no {F:List Lf} {L:List Nd} {i:Nat} {x:Nd} {w w':World} (h:Below w.heap.size w w'):FitE F L i x w (.returned (.bool false)) w':=⟨false,rfl,(fun h=>by cases h),h⟩
theorem fitE_yes {F:List Lf} {L:List Nd} {i:Nat} {x:Nd} {w w':World} {b:Bool} (h:Below w.heap.size w w') (k:b=true→FitL F L i x):FitE F L i x w (.returned (.bool b)) w':=⟨b,rfl,k,h⟩
set_option maxHeartbeats 16000000 in
theorem fits12_m (F:List Lf) (L:List Nd) (A B:Option Addr) (c d i:Nat) (x:Nd) (w:World) (hF:FB F) (hF4:F.length≤40) (hL:L.length≤200) (h1:Rd w w.heap.size 4 (.slice A F.length c) F.length (lfcs F)) (h2:Rd w w.heap.size 4 (.slice B L.length d) L.length (ndcs L)) (hx:L[i]? = some x) (hN:NdB F L) (hU:UpB L) :
    Calls Tryz.prog 13 #[.slice A F.length c,.slice B L.length d,.int .i64 (i:Int)] w fun e w'=>FitE F L i x w e w':=by
  have hil:=(List.getElem?_eq_some_iff.1 hx).1
  have hxb:=hN i x hx
  have u0:(i:Int)<(L.length:Int):=by omega
  have u1:(0:Int)≤(i:Int):=by omega
  obtain⟨g,o,rfl,hgl,hc⟩:=rd_sat ndc_len h2 hx rfl
  obtain⟨kd,hkd⟩:∃z:Int,z=(x.kd:Int):=⟨_,rfl⟩
  obtain⟨fr,hfr⟩:∃z:Int,z=(x.fr:Int):=⟨_,rfl⟩
  obtain⟨tt,htt⟩:∃z:Int,z=(x.tt:Int):=⟨_,rfl⟩
  have y0:w.cell? ⟨g,o+i*4,none⟩=some (.int .i64 kd):=by rw[hkd];exact hc 0 _ rfl
  have y1:w.cell? ⟨g,o+i*4+1,none⟩=some (.int .i64 fr):=by rw[hfr];exact hc 1 _ rfl
  have y2:w.cell? ⟨g,o+i*4+2,none⟩=some (.int .i64 tt):=by rw[htt];exact hc 2 _ rfl
  have y3:w.cell? ⟨g,o+i*4+3,none⟩=some (.int .i64 x.up):=hc 3 _ rfl
  have HC:=Lib.hid (And.intro h1 (And.intro h2 (And.intro hF (And.intro hN (And.intro hU hx)))))
  have HK:=Lib.hid (And.intro hkd (And.intro hfr htt))
  clear h1 h2 hF hN hU hc hx hkd hfr htt
  go_enter Tryz.func13,Tryz.ntmps13
  go_upto_region 2 with fail
  refine gen1 fun W0 hb0 k0 hs0=>?_
  obtain⟨b,hbe⟩:∃b,b=w.heap.size:=⟨_,rfl⟩
  rw[←hbe] at k0 ⊢
  clear y0 y1 y2 y3
  obtain⟨z0,z1,z2,z3,z4,z5,z6,z7⟩:=bk4 k0
  have H0:=Lib.hid (And.intro hb0 (And.intro k0 hbe))
  clear hb0 k0 hbe hs0
  obtain⟨hkd,hfr,htt⟩:=HK.out
  by_cases hA:x.kd≠1∧x.fr=x.tt
  ·have t1:(kd != 1)=true:=by rw[hkd];simp;omega
   have t2:(fr==tt)=true:=by rw[hfr,htt,hA.2];simp
   clear hkd hfr htt hA
   go_wp2_with fail
   go_ret
   exact fitE_no H0.out.1
  have hlt:x.kd≠1→x.fr<x.tt:=fun h=>by have:=hxb.2.1;rcases Nat.lt_or_ge x.fr x.tt with h2|h2;exact h2;exact absurd ⟨h,by omega⟩ hA
  have t12:(kd != 1)=false∨((kd != 1)=true∧(fr==tt)=false):=by
    by_cases h:x.kd=1
    ·exact .inl (by rw[hkd,h];rfl)
    ·exact .inr ⟨by rw[hkd];simp;omega,beq_false_of_ne (by have:=hlt h;omega)⟩
  have v1:(0:Int)≤fr:=by omega
  have v2:fr≤40:=by omega
  have v3:(0:Int)≤tt:=by omega
  have v4:tt≤40:=by omega
  have HD:=Lib.hid (And.intro hlt hA)
  clear hA
  by_cases h67:x.kd=6∨x.kd=7
  ·have hne:x.kd≠1:=by omega
   obtain⟨t1,t2⟩:(kd != 1)=true∧(fr==tt)=false:=by
     rcases t12 with h|h
     ·rw[hkd] at h;simp at h;omega
     ·exact h
   have hft:=hlt hne
   have v5:fr<(F.length:Int):=by omega
   obtain⟨f,hf⟩:∃f,F[x.fr]? = some f:=⟨_,List.getElem?_eq_getElem (by omega)⟩
   have hfl:=HC.out.2.2.1.t f (List.mem_of_getElem? hf)
   obtain⟨g1,o1,rfl,f0,f1,f2,f3⟩:=lf_cells (HC.out.1.keep H0.out.1 (Nat.le_refl _)) hf rfl
   have e1:fr.toNat=x.fr:=by rw[hfr];exact Int.toNat_natCast _
   rw[←e1] at f0 f1 f2 f3
   obtain⟨ka,hka,cA⟩:=rassign_k f.tx (by omega)
   have key:((kd==6)=true∧(kd==7)=false)∨((kd==6)=false∧(kd==7)=true):=by
     rcases h67 with h|h
     ·exact .inl ⟨by rw[hkd,h];rfl,by rw[hkd,h];rfl⟩
     ·exact .inr ⟨by rw[hkd,h];rfl,by rw[hkd,h];rfl⟩
   have hk7:(kd==7)=true→x.kd≠6:=fun h e=>by rw[hkd,e] at h;cases h
   by_cases p1:x.tt≠x.fr+1
   ·have t3:(tt != fr+1)=true:=by simp;omega
    clear t12 hlt hkd hfr htt e1 hf hne h67 cA hka hk7
    rcases key with ⟨k1,k2⟩|⟨k1,k2⟩
    all_goals (
      go_wp2_with fail
      go_ret
      exact fitE_no H0.out.1)
   have p1:x.tt=x.fr+1:=by omega
   have t3:(tt != fr+1)=false:=by simp;omega
   have hnx:((i:Int)+1<(L.length:Int)∧∃y,L[i+1]? = some y∧W0.cell? ⟨g,o+(i+1)*4+3,none⟩=some (.int .i64 y.up))∨(¬(i:Int)+1<(L.length:Int)∧L[i+1]? = none):=by
     by_cases h:i+1<L.length
     ·obtain⟨y,hy⟩:∃y,L[i+1]? = some y:=⟨_,List.getElem?_eq_getElem h⟩
      obtain⟨g9,o9,e9,_,hc⟩:=rd_sat ndc_len (HC.out.2.1.keep H0.out.1 (Nat.le_refl _)) hy rfl
      cases e9
      exact .inl ⟨by omega,y,hy,hc 3 _ rfl⟩
     ·exact .inr ⟨by omega,List.getElem?_eq_none (by omega)⟩
   have u2:(0:Int)≤(i:Int)+1:=by omega
   have hfit:∀b:Bool,(b=true→x.kd=6→decide ((0:Int)<(ka:Int))=true)→(∀n,L[i+1]? = some n→n.up≠(i:Int))→f.kd=6→b=true→FitL F L i x:=fun b hb hnx h6 hbt=>by
     refine⟨fun _=>hft,fun _=>⟨p1,hnx,by unfold isW;rw[hf];simp[h6],fun e=>by have:=hb hbt e;rw[hka] at this;unfold tx;rw[hf];exact this⟩,fun a b=>absurd h67 (by omega),fun e=>?_,fun e=>absurd h67 (by omega),fun e=>absurd h67 (by omega),fun e=>absurd h67 (by omega),fun e=>absurd h67 (by omega)⟩
     rcases h67 with h|h<;>(rw[h] at e;exact absurd e (by decide))
   have HF:=Lib.hid (And.intro hfit cA)
   clear hfit
   have HK7:=Lib.hid hk7
   clear t12 hlt hkd hfr htt e1 hf hne h67 cA hka hft p1 hk7
   have hend:(∀n,L[i+1]? = some n→n.up≠(i:Int))→f.kd=6→(kd==6)=true∧(kd==7)=false∨(kd==6)=false∧(kd==7)=true→∀b:Bool,(b=true→(kd==7||decide ((0:Int)<(ka:Int)))=true)→b=true→FitL F L i x:=fun h1 h2 h3 b hb=>HF.out.1 b (fun h e=>by
     have h4:=hb h
     rcases h3 with ⟨_,h⟩|⟨_,h⟩
     ·rw[h] at h4;exact h4
     ·exact absurd e (HK7.out h)) h1 h2
   have HE:=Lib.hid hend
   clear hend
   by_cases hk6:f.kd=6
   ·have t5:(f.kd != 6)=false:=by rw[hk6];rfl
    rcases hnx with ⟨m1,y,hy,m2⟩|⟨m1,hy⟩
    ·by_cases hyu:y.up=(i:Int)
     ·have t4:(y.up==(i:Int))=true:=by rw[hyu];simp
      clear hy hyu hk6
      rcases key with ⟨k1,k2⟩|⟨k1,k2⟩
      all_goals (
        go_wp2_with fail
        go_ret
        exact fitE_no H0.out.1)
     ·have t4:(y.up==(i:Int))=false:=beq_false_of_ne hyu
      have HY:=Lib.hid (And.intro (show ∀n,L[i+1]? = some n→n.up≠(i:Int) from fun n hn=>by rw[hy] at hn;cases hn;exact hyu) (And.intro hk6 key))
      clear hy hyu hk6
      rcases key with ⟨k1,k2⟩|⟨k1,k2⟩
      all_goals (
        go_wp2_with (
          go_at_call 21
          refine(HF.out.2 _).mono ?_
          rintro e w' ⟨rfl,rfl⟩)
        go_ret
        exact fitE_yes H0.out.1 (HE.out HY.out.1 HY.out.2.1 HY.out.2.2 _ (fun h=>by rw[k2];first|rfl|simpa using h)))
    ·have HY:=Lib.hid (And.intro (show ∀n,L[i+1]? = some n→n.up≠(i:Int) from fun n hn=>by rw[hy] at hn;cases hn) (And.intro hk6 key))
     clear hy hk6
     rcases key with ⟨k1,k2⟩|⟨k1,k2⟩
     all_goals (
       go_wp2_with (
         go_at_call 21
         refine(HF.out.2 _).mono ?_
         rintro e w' ⟨rfl,rfl⟩)
       go_ret
       exact fitE_yes H0.out.1 (HE.out HY.out.1 HY.out.2.1 HY.out.2.2 _ (fun h=>by rw[k2];first|rfl|simpa using h)))
   ·have t5:(f.kd != 6)=true:=by simpa using hk6
    have hq:(∃y,(i:Int)+1<(L.length:Int)∧W0.cell? ⟨g,o+(i+1)*4+3,none⟩=some (.int .i64 y))∨¬(i:Int)+1<(L.length:Int):=by
      rcases hnx with ⟨m1,y,_,m2⟩|⟨m1,_⟩
      ·exact .inl ⟨y.up,m1,m2⟩
      ·exact .inr m1
    clear hnx hk6
    rcases hq with ⟨y,m1,m2⟩|m1
    case' inl=>by_cases hyu:y=(i:Int)
    case' pos=>have t4:(y==(i:Int))=true:=by rw[hyu];simp
    case' neg=>have t4:(y==(i:Int))=false:=beq_false_of_ne hyu
    case' pos=>clear hyu
    case' neg=>clear hyu
    all_goals (
      rcases key with ⟨k1,k2⟩|⟨k1,k2⟩
      all_goals (
        go_wp2_with fail
        go_ret
        exact fitE_no H0.out.1))
  ·have k1:(kd==6)=false:=beq_false_of_ne (by omega)
   have k2:(kd==7)=false:=beq_false_of_ne (by omega)
   have hRl:=rowN_len HC.out.2.2.2.1 hF4 hL HC.out.2.2.2.2.2
   obtain⟨R,hR⟩:∃R,R=rowN F L i x:=⟨_,rfl⟩
   have cR:∀W,Below w.heap.size w W→Calls Tryz.prog 23 #[.slice A F.length c,.slice (some ⟨g,o,none⟩) L.length d,.int .i64 (i:Int)] W fun e w'=>e=.returned (.string ⟨R.toArray⟩)∧Below W.heap.size W w':=fun W hW=>by
     rw[hR]
     exact row_m F L _ _ c d i x W HC.out.2.2.1 hF4 hL ((HC.out.1.keep hW (Nat.le_refl _)).mono hW.size) ((HC.out.2.1.keep hW (Nat.le_refl _)).mono hW.size) HC.out.2.2.2.2.2 HC.out.2.2.2.1
   obtain⟨b1,hb1⟩:∃b,b=formV R x.kd:=⟨_,rfl⟩
   have cF:∀W,Calls Tryz.prog 22 #[.int .i64 kd,.string ⟨R.toArray⟩] W fun e w'=>e=.returned (.bool b1)∧Below W.heap.size W w':=fun W=>by
     rw[hb1,hkd]
     exact form_m x.kd R W hxb.1 ⟨fun e=>h67 (.inl e),fun e=>h67 (.inr e)⟩ (fun e=>by rw[hR];exact rowN_ne (hlt (by omega))) (by rw[hR];exact hRl)
   obtain⟨b2,hb2⟩:∃b,b=nestB x.kd:=⟨_,rfl⟩
   have cN:∀W,Calls Tryz.prog 24 #[.int .i64 kd] W fun e w'=>e=.returned (.bool b2)∧W=w':=fun W=>by rw[hb2,hkd];exact(nests_r _ _).mono fun e w' h=>⟨h.1,h.2.symm⟩
   obtain⟨dp,hdp⟩:∃z,z=cntK L i i:=⟨_,rfl⟩
   have cD:∀W,Below w.heap.size w W→Calls Tryz.prog 25 #[.slice (some ⟨g,o,none⟩) L.length d,.int .i64 (i:Int)] W fun e w'=>e=.returned (.int .i64 (dp:Int))∧Below W.heap.size W w':=fun W hW=>by
     rw[hdp]
     exact deep_m L _ d i W hL ((HC.out.2.1.keep hW (Nat.le_refl _)).mono hW.size) hil HC.out.2.2.2.2.1
   have hform:b1=true→Rm (frm x.kd) (rowN F L i x):=fun h=>by
     rw[←hR]
     exact formV_ok x.kd R hxb.1 ⟨fun e=>h67 (.inl e),fun e=>h67 (.inr e)⟩ (by rw[←hb1];exact h)
   have hnest:b2=false→nst x.kd≠1:=fun h=>by rw[nst_b,←hb2,h];decide
   have HP:=Lib.hid (And.intro cR (And.intro cF (And.intro cN (And.intro cD (And.intro hform (And.intro hnest hdp))))))
   have H12:=Lib.hid (And.intro t12 (And.intro h67 (And.intro hkd (And.intro hfr htt))))
   clear cR cF cN cD hform hnest hdp hRl hR hb1 hb2 h67 hlt hkd hfr htt
   have key:b1=false∨(b1=true∧b2=false)∨(b1=true∧b2=true∧200≤dp)∨(b1=true∧b2=true∧dp<200):=by
     cases b1<;>cases b2<;>simp<;>omega
   have hc8:∀W,Below W0.heap.size W0 W→W.cell? ⟨b,0,none⟩=some (.int .i64 kd):=fun W hW=>bkp hW z0
   have hmix:Tryz.prog.follows .mixedOrders=true:=by kernel_rfl
   rcases key with hb1|⟨hb1,hb2⟩|⟨hb1,hb2,h200⟩|⟨hb1,hb2,h200⟩
   ·subst hb1
    rcases t12 with t1|⟨t1,t2⟩
    all_goals (
      go_upto_region 8 with fail
      obtain⟨S0,hS0⟩:∃S0:World→Prop,S0=fun w'=>Below W0.heap.size W0 w':=⟨_,rfl⟩
      refine wp_region_held (S:=S0) hmix ?_
      show wpAnyH _ _ _ _ _ _ _ _ W0.drew
      have hS1:S0 W0.drew:=by rw[hS0];exact(Below.refl _ W0).drew
      have tc:∀(w':World),S0 w'→∀(a:Addr) (v:Value),W0.cell? a=some v→w'.cell? a=some v:=fun w' h a v hc=>bkp (by rw[hS0] at h;exact h) hc
      refine wpAnyH_take (i:=0) (v:=.pointer (some ⟨b,0,none⟩)) rfl (by decide +kernel) (by decide +kernel) (by decide +kernel) (fun _ _ _ h=>h) (Or.inl ⟨by rfl,fun w' hS=>?_⟩) hS1 ?_
      ·go_simp
      try simp only[Act.put,List.getElem_toArray,List.getElem_cons_succ,List.getElem_cons_zero,List.setIfInBounds_toArray,List.set_cons_zero,List.set_cons_succ]
      refine wpAnyH_take (i:=1) (v:=.int .i64 kd) rfl (by decide +kernel) (by decide +kernel) (by decide +kernel) (fun _ _ _ h=>h) (Or.inl ⟨by rfl,fun w' hS=>?_⟩) hS1 ?_
      ·have c0:=tc w' hS _ _ z0;go_simp
      try simp only[Act.put,List.getElem_toArray,List.getElem_cons_succ,List.getElem_cons_zero,List.setIfInBounds_toArray,List.set_cons_zero,List.set_cons_succ]
      refine wpAnyH_take (i:=2) (v:=.slice A F.length c) rfl (by decide +kernel) (by decide +kernel) (by decide +kernel) (fun _ _ _ h=>h) (Or.inl ⟨by rfl,fun w' hS=>?_⟩) hS1 ?_
      ·go_simp
      try simp only[Act.put,List.getElem_toArray,List.getElem_cons_succ,List.getElem_cons_zero,List.setIfInBounds_toArray,List.set_cons_zero,List.set_cons_succ]
      refine wpAnyH_take (i:=3) (v:=.slice (some ⟨g,o,none⟩) L.length d) rfl (by decide +kernel) (by decide +kernel) (by decide +kernel) (fun _ _ _ h=>h) (Or.inl ⟨by rfl,fun w' hS=>?_⟩) hS1 ?_
      ·go_simp
      try simp only[Act.put,List.getElem_toArray,List.getElem_cons_succ,List.getElem_cons_zero,List.setIfInBounds_toArray,List.set_cons_zero,List.set_cons_succ]
      refine wpAnyH_take (i:=4) (v:=.int .i64 (i:Int)) rfl (by decide +kernel) (by decide +kernel) (by decide +kernel) (fun _ _ _ h=>h) (Or.inl ⟨by rfl,fun w' hS=>?_⟩) hS1 ?_
      ·go_simp
      try simp only[Act.put,List.getElem_toArray,List.getElem_cons_succ,List.getElem_cons_zero,List.setIfInBounds_toArray,List.set_cons_zero,List.set_cons_succ]
      refine wpAnyH_all (rs:=[5]) (by decide +kernel) (by simp) (allH1 rfl (by rfl) (fun K2 hK2=>?_) (allH0 (S:=S0)))
      go_simp
      go_at_call 23
      refine(HP.out.1 _ (H0.out.1.trans ((Below.refl _ W0).drew.mono H0.out.1.size))).mono ?_
      rintro e w8 ⟨rfl,hb⟩
      have H8:=Lib.hid ((Below.refl _ W0).drew.trans hb)
      clear hb
      have hS2:S0 w8:=by rw[hS0];exact H8.out
      refine hK2 _ _ hS2 ?_
      clear hK2 K2
      try simp only[Act.put,List.getElem_toArray,List.getElem_cons_succ,List.getElem_cons_zero,List.setIfInBounds_toArray,List.set_cons_zero,List.set_cons_succ]
      refine wpAnyH_all (rs:=[6]) (by decide +kernel) (by simp) (allH1 rfl (by rfl) (fun K2 hK2=>?_) (allH0 (S:=S0)))
      go_simp
      go_at_call 22
      refine(HP.out.2.1 _).mono ?_
      rintro e wz ⟨rfl,hb⟩
      have HZ:=Lib.hid (H8.out.trans (hb.mono H8.out.size))
      clear hb
      have hS3:S0 wz:=by rw[hS0];exact HZ.out
      refine hK2 _ _ hS3 ?_
      clear hK2 K2
      try simp only[Act.put,List.getElem_toArray,List.getElem_cons_succ,List.getElem_cons_zero,List.setIfInBounds_toArray,List.set_cons_zero,List.set_cons_succ]
      refine wpAnyH_take (i:=7) (v:=.bool true) rfl (by decide +kernel) (by decide +kernel) (by decide +kernel) (fun _ _ _ h=>h) (Or.inl ⟨by rfl,fun w' hS=>?_⟩) hS3 ?_
      ·go_simp
      try simp only[Act.put,List.getElem_toArray,List.getElem_cons_succ,List.getElem_cons_zero,List.setIfInBounds_toArray,List.set_cons_zero,List.set_cons_succ]
      refine wpAnyH_take (i:=8) (v:=.bool true) rfl (by decide +kernel) (by decide +kernel) (by decide +kernel) (fun _ _ _ h=>h) (Or.inl ⟨by rfl,fun w' hS=>?_⟩) hS3 ?_
      ·go_simp
      try simp only[Act.put,List.getElem_toArray,List.getElem_cons_succ,List.getElem_cons_zero,List.setIfInBounds_toArray,List.set_cons_zero,List.set_cons_succ]
      refine wpAnyH_take (i:=9) (v:=undef) rfl (by decide +kernel) (by decide +kernel) (by decide +kernel) (fun _ _ _ h=>h) (Or.inr ⟨by rfl,rfl⟩) hS3 ?_
      try simp only[Act.put,List.getElem_toArray,List.getElem_cons_succ,List.getElem_cons_zero,List.setIfInBounds_toArray,List.set_cons_zero,List.set_cons_succ]
      refine wpAnyH_take (i:=10) (v:=undef) rfl (by decide +kernel) (by decide +kernel) (by decide +kernel) (fun _ _ _ h=>h) (Or.inr ⟨by rfl,rfl⟩) hS3 ?_
      try simp only[Act.put,List.getElem_toArray,List.getElem_cons_succ,List.getElem_cons_zero,List.setIfInBounds_toArray,List.set_cons_zero,List.set_cons_succ]
      refine wpAnyH_take (i:=11) (v:=undef) rfl (by decide +kernel) (by decide +kernel) (by decide +kernel) (fun _ _ _ h=>h) (Or.inr ⟨by rfl,rfl⟩) hS3 ?_
      try simp only[Act.put,List.getElem_toArray,List.getElem_cons_succ,List.getElem_cons_zero,List.setIfInBounds_toArray,List.set_cons_zero,List.set_cons_succ]
      refine wpAnyH_take (i:=12) (v:=undef) rfl (by decide +kernel) (by decide +kernel) (by decide +kernel) (fun _ _ _ h=>h) (Or.inr ⟨by rfl,rfl⟩) hS3 ?_
      try simp only[Act.put,List.getElem_toArray,List.getElem_cons_succ,List.getElem_cons_zero,List.setIfInBounds_toArray,List.set_cons_zero,List.set_cons_succ]
      refine wpAnyH_take (i:=13) (v:=undef) rfl (by decide +kernel) (by decide +kernel) (by decide +kernel) (fun _ _ _ h=>h) (Or.inr ⟨by rfl,rfl⟩) hS3 ?_
      try simp only[Act.put,List.getElem_toArray,List.getElem_cons_succ,List.getElem_cons_zero,List.setIfInBounds_toArray,List.set_cons_zero,List.set_cons_succ]
      refine wpAnyH_take (i:=14) (v:=undef) rfl (by decide +kernel) (by decide +kernel) (by decide +kernel) (fun _ _ _ h=>h) (Or.inr ⟨by rfl,rfl⟩) hS3 ?_
      try simp only[Act.put,List.getElem_toArray,List.getElem_cons_succ,List.getElem_cons_zero,List.setIfInBounds_toArray,List.set_cons_zero,List.set_cons_succ]
      refine wpAnyH_take (i:=15) (v:=undef) rfl (by decide +kernel) (by decide +kernel) (by decide +kernel) (fun _ _ _ h=>h) (Or.inr ⟨by rfl,rfl⟩) hS3 ?_
      try simp only[Act.put,List.getElem_toArray,List.getElem_cons_succ,List.getElem_cons_zero,List.setIfInBounds_toArray,List.set_cons_zero,List.set_cons_succ]
      refine wpAnyH_take (i:=16) (v:=undef) rfl (by decide +kernel) (by decide +kernel) (by decide +kernel) (fun _ _ _ h=>h) (Or.inr ⟨by rfl,rfl⟩) hS3 ?_
      try simp only[Act.put,List.getElem_toArray,List.getElem_cons_succ,List.getElem_cons_zero,List.setIfInBounds_toArray,List.set_cons_zero,List.set_cons_succ]
      refine wpAnyH_take (i:=17) (v:=undef) rfl (by decide +kernel) (by decide +kernel) (by decide +kernel) (fun _ _ _ h=>h) (Or.inr ⟨by rfl,rfl⟩) hS3 ?_
      try simp only[Act.put,List.getElem_toArray,List.getElem_cons_succ,List.getElem_cons_zero,List.setIfInBounds_toArray,List.set_cons_zero,List.set_cons_succ]
      refine wpAnyH_take (i:=18) (v:=.bool true) rfl (by decide +kernel) (by decide +kernel) (by decide +kernel) (fun _ _ _ h=>h) (Or.inl ⟨by rfl,fun w' hS=>?_⟩) hS3 ?_
      ·go_simp
      try simp only[Act.put,List.getElem_toArray,List.getElem_cons_succ,List.getElem_cons_zero,List.setIfInBounds_toArray,List.set_cons_zero,List.set_cons_succ]
      refine wpAnyH_done (by decide +kernel) ?_ _
      go_wp2_with fail
      go_ret
      exact fitE_no (H0.out.1.trans (HZ.out.mono H0.out.1.size)))
   rotate_left
   ·subst hb1 hb2
    have t9:(200:Int)≤(dp:Int):=by omega
    clear h200
    rcases t12 with t1|⟨t1,t2⟩
    all_goals (
      go_upto_region 8 with fail
      obtain⟨S0,hS0⟩:∃S0:World→Prop,S0=fun w'=>Below W0.heap.size W0 w':=⟨_,rfl⟩
      refine wp_region_held (S:=S0) hmix ?_
      show wpAnyH _ _ _ _ _ _ _ _ W0.drew
      have hS1:S0 W0.drew:=by rw[hS0];exact(Below.refl _ W0).drew
      have tc:∀(w':World),S0 w'→∀(a:Addr) (v:Value),W0.cell? a=some v→w'.cell? a=some v:=fun w' h a v hc=>bkp (by rw[hS0] at h;exact h) hc
      refine wpAnyH_take (i:=0) (v:=.pointer (some ⟨b,0,none⟩)) rfl (by decide +kernel) (by decide +kernel) (by decide +kernel) (fun _ _ _ h=>h) (Or.inl ⟨by rfl,fun w' hS=>?_⟩) hS1 ?_
      ·go_simp
      try simp only[Act.put,List.getElem_toArray,List.getElem_cons_succ,List.getElem_cons_zero,List.setIfInBounds_toArray,List.set_cons_zero,List.set_cons_succ]
      refine wpAnyH_take (i:=1) (v:=.int .i64 kd) rfl (by decide +kernel) (by decide +kernel) (by decide +kernel) (fun _ _ _ h=>h) (Or.inl ⟨by rfl,fun w' hS=>?_⟩) hS1 ?_
      ·have c0:=tc w' hS _ _ z0;go_simp
      try simp only[Act.put,List.getElem_toArray,List.getElem_cons_succ,List.getElem_cons_zero,List.setIfInBounds_toArray,List.set_cons_zero,List.set_cons_succ]
      refine wpAnyH_take (i:=2) (v:=.slice A F.length c) rfl (by decide +kernel) (by decide +kernel) (by decide +kernel) (fun _ _ _ h=>h) (Or.inl ⟨by rfl,fun w' hS=>?_⟩) hS1 ?_
      ·go_simp
      try simp only[Act.put,List.getElem_toArray,List.getElem_cons_succ,List.getElem_cons_zero,List.setIfInBounds_toArray,List.set_cons_zero,List.set_cons_succ]
      refine wpAnyH_take (i:=3) (v:=.slice (some ⟨g,o,none⟩) L.length d) rfl (by decide +kernel) (by decide +kernel) (by decide +kernel) (fun _ _ _ h=>h) (Or.inl ⟨by rfl,fun w' hS=>?_⟩) hS1 ?_
      ·go_simp
      try simp only[Act.put,List.getElem_toArray,List.getElem_cons_succ,List.getElem_cons_zero,List.setIfInBounds_toArray,List.set_cons_zero,List.set_cons_succ]
      refine wpAnyH_take (i:=4) (v:=.int .i64 (i:Int)) rfl (by decide +kernel) (by decide +kernel) (by decide +kernel) (fun _ _ _ h=>h) (Or.inl ⟨by rfl,fun w' hS=>?_⟩) hS1 ?_
      ·go_simp
      try simp only[Act.put,List.getElem_toArray,List.getElem_cons_succ,List.getElem_cons_zero,List.setIfInBounds_toArray,List.set_cons_zero,List.set_cons_succ]
      refine wpAnyH_all (rs:=[5]) (by decide +kernel) (by simp) (allH1 rfl (by rfl) (fun K2 hK2=>?_) (allH0 (S:=S0)))
      go_simp
      go_at_call 23
      refine(HP.out.1 _ (H0.out.1.trans ((Below.refl _ W0).drew.mono H0.out.1.size))).mono ?_
      rintro e w8 ⟨rfl,hb⟩
      have H8:=Lib.hid ((Below.refl _ W0).drew.trans hb)
      clear hb
      have hS2:S0 w8:=by rw[hS0];exact H8.out
      refine hK2 _ _ hS2 ?_
      clear hK2 K2
      try simp only[Act.put,List.getElem_toArray,List.getElem_cons_succ,List.getElem_cons_zero,List.setIfInBounds_toArray,List.set_cons_zero,List.set_cons_succ]
      refine wpAnyH_all (rs:=[6]) (by decide +kernel) (by simp) (allH1 rfl (by rfl) (fun K2 hK2=>?_) (allH0 (S:=S0)))
      go_simp
      go_at_call 22
      refine(HP.out.2.1 _).mono ?_
      rintro e w9 ⟨rfl,hb⟩
      have H9:=Lib.hid (H8.out.trans (hb.mono H8.out.size))
      clear hb
      have hS3:S0 w9:=by rw[hS0];exact H9.out
      refine hK2 _ _ hS3 ?_
      clear hK2 K2
      try simp only[Act.put,List.getElem_toArray,List.getElem_cons_succ,List.getElem_cons_zero,List.setIfInBounds_toArray,List.set_cons_zero,List.set_cons_succ]
      refine wpAnyH_take (i:=7) (v:=.bool false) rfl (by decide +kernel) (by decide +kernel) (by decide +kernel) (fun _ _ _ h=>h) (Or.inl ⟨by rfl,fun w' hS=>?_⟩) hS3 ?_
      ·go_simp
      try simp only[Act.put,List.getElem_toArray,List.getElem_cons_succ,List.getElem_cons_zero,List.setIfInBounds_toArray,List.set_cons_zero,List.set_cons_succ]
      refine wpAnyH_take (i:=8) (v:=.bool false) rfl (by decide +kernel) (by decide +kernel) (by decide +kernel) (fun _ _ _ h=>h) (Or.inl ⟨by rfl,fun w' hS=>?_⟩) hS3 ?_
      ·go_simp
      try simp only[Act.put,List.getElem_toArray,List.getElem_cons_succ,List.getElem_cons_zero,List.setIfInBounds_toArray,List.set_cons_zero,List.set_cons_succ]
      refine wpAnyH_take (i:=9) (v:=.pointer (some ⟨b,0,none⟩)) rfl (by decide +kernel) (by decide +kernel) (by decide +kernel) (fun _ _ _ h=>h) (Or.inl ⟨by rfl,fun w' hS=>?_⟩) hS3 ?_
      ·go_simp
      try simp only[Act.put,List.getElem_toArray,List.getElem_cons_succ,List.getElem_cons_zero,List.setIfInBounds_toArray,List.set_cons_zero,List.set_cons_succ]
      refine wpAnyH_take (i:=10) (v:=.int .i64 kd) rfl (by decide +kernel) (by decide +kernel) (by decide +kernel) (fun _ _ _ h=>h) (Or.inl ⟨by rfl,fun w' hS=>?_⟩) hS3 ?_
      ·have c0:=tc w' hS _ _ z0;go_simp
      try simp only[Act.put,List.getElem_toArray,List.getElem_cons_succ,List.getElem_cons_zero,List.setIfInBounds_toArray,List.set_cons_zero,List.set_cons_succ]
      refine wpAnyH_all (rs:=[11]) (by decide +kernel) (by simp) (allH1 rfl (by rfl) (fun K2 hK2=>?_) (allH0 (S:=S0)))
      go_simp
      go_at_call 24
      refine(HP.out.2.2.1 _).mono ?_
      rintro e w7 ⟨rfl,rfl⟩
      have hS4:S0 w9:=by rw[hS0];exact H9.out
      refine hK2 _ _ hS4 ?_
      clear hK2 K2
      try simp only[Act.put,List.getElem_toArray,List.getElem_cons_succ,List.getElem_cons_zero,List.setIfInBounds_toArray,List.set_cons_zero,List.set_cons_succ]
      refine wpAnyH_take (i:=12) (v:=.bool true) rfl (by decide +kernel) (by decide +kernel) (by decide +kernel) (fun _ _ _ h=>h) (Or.inl ⟨by rfl,fun w' hS=>?_⟩) hS4 ?_
      ·go_simp
      try simp only[Act.put,List.getElem_toArray,List.getElem_cons_succ,List.getElem_cons_zero,List.setIfInBounds_toArray,List.set_cons_zero,List.set_cons_succ]
      refine wpAnyH_take (i:=13) (v:=.slice (some ⟨g,o,none⟩) L.length d) rfl (by decide +kernel) (by decide +kernel) (by decide +kernel) (fun _ _ _ h=>h) (Or.inl ⟨by rfl,fun w' hS=>?_⟩) hS4 ?_
      ·go_simp
      try simp only[Act.put,List.getElem_toArray,List.getElem_cons_succ,List.getElem_cons_zero,List.setIfInBounds_toArray,List.set_cons_zero,List.set_cons_succ]
      refine wpAnyH_take (i:=14) (v:=.int .i64 (i:Int)) rfl (by decide +kernel) (by decide +kernel) (by decide +kernel) (fun _ _ _ h=>h) (Or.inl ⟨by rfl,fun w' hS=>?_⟩) hS4 ?_
      ·go_simp
      try simp only[Act.put,List.getElem_toArray,List.getElem_cons_succ,List.getElem_cons_zero,List.setIfInBounds_toArray,List.set_cons_zero,List.set_cons_succ]
      refine wpAnyH_all (rs:=[15]) (by decide +kernel) (by simp) (allH1 rfl (by rfl) (fun K2 hK2=>?_) (allH0 (S:=S0)))
      go_simp
      go_at_call 25
      refine(HP.out.2.2.2.1 _ (H0.out.1.trans (H9.out.mono H0.out.1.size))).mono ?_
      rintro e wz ⟨rfl,hb⟩
      have HZ:=Lib.hid (H9.out.trans (hb.mono H9.out.size))
      clear hb
      have hS5:S0 wz:=by rw[hS0];exact HZ.out
      refine hK2 _ _ hS5 ?_
      clear hK2 K2
      try simp only[Act.put,List.getElem_toArray,List.getElem_cons_succ,List.getElem_cons_zero,List.setIfInBounds_toArray,List.set_cons_zero,List.set_cons_succ]
      refine wpAnyH_take (i:=16) (v:=.bool true) rfl (by decide +kernel) (by decide +kernel) (by decide +kernel) (fun _ _ _ h=>h) (Or.inl ⟨by rfl,fun w' hS=>?_⟩) hS5 ?_
      ·go_simp
      try simp only[Act.put,List.getElem_toArray,List.getElem_cons_succ,List.getElem_cons_zero,List.setIfInBounds_toArray,List.set_cons_zero,List.set_cons_succ]
      refine wpAnyH_take (i:=17) (v:=.bool true) rfl (by decide +kernel) (by decide +kernel) (by decide +kernel) (fun _ _ _ h=>h) (Or.inl ⟨by rfl,fun w' hS=>?_⟩) hS5 ?_
      ·go_simp
      try simp only[Act.put,List.getElem_toArray,List.getElem_cons_succ,List.getElem_cons_zero,List.setIfInBounds_toArray,List.set_cons_zero,List.set_cons_succ]
      refine wpAnyH_take (i:=18) (v:=.bool true) rfl (by decide +kernel) (by decide +kernel) (by decide +kernel) (fun _ _ _ h=>h) (Or.inl ⟨by rfl,fun w' hS=>?_⟩) hS5 ?_
      ·go_simp
      try simp only[Act.put,List.getElem_toArray,List.getElem_cons_succ,List.getElem_cons_zero,List.setIfInBounds_toArray,List.set_cons_zero,List.set_cons_succ]
      refine wpAnyH_done (by decide +kernel) ?_ _
      go_wp2_with fail
      go_ret
      exact fitE_no (H0.out.1.trans (HZ.out.mono H0.out.1.size)))
   case' inr.inl=>
     subst hb1 hb2
     have HQ:=Lib.hid (show nst x.kd=1→cntK L i i<200 from fun h=>absurd h (HP.out.2.2.2.2.2.1 rfl))
     rcases t12 with t1|⟨t1,t2⟩
     all_goals (
       go_upto_region 8 with fail
       obtain⟨S0,hS0⟩:∃S0:World→Prop,S0=fun w'=>Below W0.heap.size W0 w':=⟨_,rfl⟩
       refine wp_region_held (S:=S0) hmix ?_
       show wpAnyH _ _ _ _ _ _ _ _ W0.drew
       have hS1:S0 W0.drew:=by rw[hS0];exact(Below.refl _ W0).drew
       have tc:∀(w':World),S0 w'→∀(a:Addr) (v:Value),W0.cell? a=some v→w'.cell? a=some v:=fun w' h a v hc=>bkp (by rw[hS0] at h;exact h) hc
       refine wpAnyH_take (i:=0) (v:=.pointer (some ⟨b,0,none⟩)) rfl (by decide +kernel) (by decide +kernel) (by decide +kernel) (fun _ _ _ h=>h) (Or.inl ⟨by rfl,fun w' hS=>?_⟩) hS1 ?_
       ·go_simp
       try simp only[Act.put,List.getElem_toArray,List.getElem_cons_succ,List.getElem_cons_zero,List.setIfInBounds_toArray,List.set_cons_zero,List.set_cons_succ]
       refine wpAnyH_take (i:=1) (v:=.int .i64 kd) rfl (by decide +kernel) (by decide +kernel) (by decide +kernel) (fun _ _ _ h=>h) (Or.inl ⟨by rfl,fun w' hS=>?_⟩) hS1 ?_
       ·have c0:=tc w' hS _ _ z0;go_simp
       try simp only[Act.put,List.getElem_toArray,List.getElem_cons_succ,List.getElem_cons_zero,List.setIfInBounds_toArray,List.set_cons_zero,List.set_cons_succ]
       refine wpAnyH_take (i:=2) (v:=.slice A F.length c) rfl (by decide +kernel) (by decide +kernel) (by decide +kernel) (fun _ _ _ h=>h) (Or.inl ⟨by rfl,fun w' hS=>?_⟩) hS1 ?_
       ·go_simp
       try simp only[Act.put,List.getElem_toArray,List.getElem_cons_succ,List.getElem_cons_zero,List.setIfInBounds_toArray,List.set_cons_zero,List.set_cons_succ]
       refine wpAnyH_take (i:=3) (v:=.slice (some ⟨g,o,none⟩) L.length d) rfl (by decide +kernel) (by decide +kernel) (by decide +kernel) (fun _ _ _ h=>h) (Or.inl ⟨by rfl,fun w' hS=>?_⟩) hS1 ?_
       ·go_simp
       try simp only[Act.put,List.getElem_toArray,List.getElem_cons_succ,List.getElem_cons_zero,List.setIfInBounds_toArray,List.set_cons_zero,List.set_cons_succ]
       refine wpAnyH_take (i:=4) (v:=.int .i64 (i:Int)) rfl (by decide +kernel) (by decide +kernel) (by decide +kernel) (fun _ _ _ h=>h) (Or.inl ⟨by rfl,fun w' hS=>?_⟩) hS1 ?_
       ·go_simp
       try simp only[Act.put,List.getElem_toArray,List.getElem_cons_succ,List.getElem_cons_zero,List.setIfInBounds_toArray,List.set_cons_zero,List.set_cons_succ]
       refine wpAnyH_all (rs:=[5]) (by decide +kernel) (by simp) (allH1 rfl (by rfl) (fun K2 hK2=>?_) (allH0 (S:=S0)))
       go_simp
       go_at_call 23
       refine(HP.out.1 _ (H0.out.1.trans ((Below.refl _ W0).drew.mono H0.out.1.size))).mono ?_
       rintro e w8 ⟨rfl,hb⟩
       have H8:=Lib.hid ((Below.refl _ W0).drew.trans hb)
       clear hb
       have hS2:S0 w8:=by rw[hS0];exact H8.out
       refine hK2 _ _ hS2 ?_
       clear hK2 K2
       try simp only[Act.put,List.getElem_toArray,List.getElem_cons_succ,List.getElem_cons_zero,List.setIfInBounds_toArray,List.set_cons_zero,List.set_cons_succ]
       refine wpAnyH_all (rs:=[6]) (by decide +kernel) (by simp) (allH1 rfl (by rfl) (fun K2 hK2=>?_) (allH0 (S:=S0)))
       go_simp
       go_at_call 22
       refine(HP.out.2.1 _).mono ?_
       rintro e wz ⟨rfl,hb⟩
       have HZ:=Lib.hid (H8.out.trans (hb.mono H8.out.size))
       clear hb
       have hS3:S0 wz:=by rw[hS0];exact HZ.out
       refine hK2 _ _ hS3 ?_
       clear hK2 K2
       try simp only[Act.put,List.getElem_toArray,List.getElem_cons_succ,List.getElem_cons_zero,List.setIfInBounds_toArray,List.set_cons_zero,List.set_cons_succ]
       refine wpAnyH_take (i:=7) (v:=.bool false) rfl (by decide +kernel) (by decide +kernel) (by decide +kernel) (fun _ _ _ h=>h) (Or.inl ⟨by rfl,fun w' hS=>?_⟩) hS3 ?_
       ·go_simp
       try simp only[Act.put,List.getElem_toArray,List.getElem_cons_succ,List.getElem_cons_zero,List.setIfInBounds_toArray,List.set_cons_zero,List.set_cons_succ]
       refine wpAnyH_take (i:=8) (v:=.bool false) rfl (by decide +kernel) (by decide +kernel) (by decide +kernel) (fun _ _ _ h=>h) (Or.inl ⟨by rfl,fun w' hS=>?_⟩) hS3 ?_
       ·go_simp
       try simp only[Act.put,List.getElem_toArray,List.getElem_cons_succ,List.getElem_cons_zero,List.setIfInBounds_toArray,List.set_cons_zero,List.set_cons_succ]
       refine wpAnyH_take (i:=9) (v:=.pointer (some ⟨b,0,none⟩)) rfl (by decide +kernel) (by decide +kernel) (by decide +kernel) (fun _ _ _ h=>h) (Or.inl ⟨by rfl,fun w' hS=>?_⟩) hS3 ?_
       ·go_simp
       try simp only[Act.put,List.getElem_toArray,List.getElem_cons_succ,List.getElem_cons_zero,List.setIfInBounds_toArray,List.set_cons_zero,List.set_cons_succ]
       refine wpAnyH_take (i:=10) (v:=.int .i64 kd) rfl (by decide +kernel) (by decide +kernel) (by decide +kernel) (fun _ _ _ h=>h) (Or.inl ⟨by rfl,fun w' hS=>?_⟩) hS3 ?_
       ·have c0:=tc w' hS _ _ z0;go_simp
       try simp only[Act.put,List.getElem_toArray,List.getElem_cons_succ,List.getElem_cons_zero,List.setIfInBounds_toArray,List.set_cons_zero,List.set_cons_succ]
       refine wpAnyH_all (rs:=[11]) (by decide +kernel) (by simp) (allH1 rfl (by rfl) (fun K2 hK2=>?_) (allH0 (S:=S0)))
       go_simp
       go_at_call 24
       refine(HP.out.2.2.1 _).mono ?_
       rintro e w7 ⟨rfl,rfl⟩
       have hS4:S0 wz:=by rw[hS0];exact HZ.out
       refine hK2 _ _ hS4 ?_
       clear hK2 K2
       try simp only[Act.put,List.getElem_toArray,List.getElem_cons_succ,List.getElem_cons_zero,List.setIfInBounds_toArray,List.set_cons_zero,List.set_cons_succ]
       refine wpAnyH_take (i:=12) (v:=.bool false) rfl (by decide +kernel) (by decide +kernel) (by decide +kernel) (fun _ _ _ h=>h) (Or.inl ⟨by rfl,fun w' hS=>?_⟩) hS4 ?_
       ·go_simp
       try simp only[Act.put,List.getElem_toArray,List.getElem_cons_succ,List.getElem_cons_zero,List.setIfInBounds_toArray,List.set_cons_zero,List.set_cons_succ]
       refine wpAnyH_take (i:=13) (v:=undef) rfl (by decide +kernel) (by decide +kernel) (by decide +kernel) (fun _ _ _ h=>h) (Or.inr ⟨by rfl,rfl⟩) hS4 ?_
       try simp only[Act.put,List.getElem_toArray,List.getElem_cons_succ,List.getElem_cons_zero,List.setIfInBounds_toArray,List.set_cons_zero,List.set_cons_succ]
       refine wpAnyH_take (i:=14) (v:=undef) rfl (by decide +kernel) (by decide +kernel) (by decide +kernel) (fun _ _ _ h=>h) (Or.inr ⟨by rfl,rfl⟩) hS4 ?_
       try simp only[Act.put,List.getElem_toArray,List.getElem_cons_succ,List.getElem_cons_zero,List.setIfInBounds_toArray,List.set_cons_zero,List.set_cons_succ]
       refine wpAnyH_take (i:=15) (v:=undef) rfl (by decide +kernel) (by decide +kernel) (by decide +kernel) (fun _ _ _ h=>h) (Or.inr ⟨by rfl,rfl⟩) hS4 ?_
       try simp only[Act.put,List.getElem_toArray,List.getElem_cons_succ,List.getElem_cons_zero,List.setIfInBounds_toArray,List.set_cons_zero,List.set_cons_succ]
       refine wpAnyH_take (i:=16) (v:=undef) rfl (by decide +kernel) (by decide +kernel) (by decide +kernel) (fun _ _ _ h=>h) (Or.inr ⟨by rfl,rfl⟩) hS4 ?_
       try simp only[Act.put,List.getElem_toArray,List.getElem_cons_succ,List.getElem_cons_zero,List.setIfInBounds_toArray,List.set_cons_zero,List.set_cons_succ]
       refine wpAnyH_take (i:=17) (v:=.bool false) rfl (by decide +kernel) (by decide +kernel) (by decide +kernel) (fun _ _ _ h=>h) (Or.inl ⟨by rfl,fun w' hS=>?_⟩) hS4 ?_
       ·go_simp
       try simp only[Act.put,List.getElem_toArray,List.getElem_cons_succ,List.getElem_cons_zero,List.setIfInBounds_toArray,List.set_cons_zero,List.set_cons_succ]
       refine wpAnyH_take (i:=18) (v:=.bool false) rfl (by decide +kernel) (by decide +kernel) (by decide +kernel) (fun _ _ _ h=>h) (Or.inl ⟨by rfl,fun w' hS=>?_⟩) hS4 ?_
       ·go_simp
       try simp only[Act.put,List.getElem_toArray,List.getElem_cons_succ,List.getElem_cons_zero,List.setIfInBounds_toArray,List.set_cons_zero,List.set_cons_succ]
       refine wpAnyH_done (by decide +kernel) ?_ _)
   case' inr.inr.inr=>
     subst hb1 hb2
     have t9:¬(200:Int)≤(dp:Int):=by omega
     have HQ:=Lib.hid (show nst x.kd=1→cntK L i i<200 from fun _=>by have:=HP.out.2.2.2.2.2.2;omega)
     clear h200
     rcases t12 with t1|⟨t1,t2⟩
     all_goals (
       go_upto_region 8 with fail
       obtain⟨S0,hS0⟩:∃S0:World→Prop,S0=fun w'=>Below W0.heap.size W0 w':=⟨_,rfl⟩
       refine wp_region_held (S:=S0) hmix ?_
       show wpAnyH _ _ _ _ _ _ _ _ W0.drew
       have hS1:S0 W0.drew:=by rw[hS0];exact(Below.refl _ W0).drew
       have tc:∀(w':World),S0 w'→∀(a:Addr) (v:Value),W0.cell? a=some v→w'.cell? a=some v:=fun w' h a v hc=>bkp (by rw[hS0] at h;exact h) hc
       refine wpAnyH_take (i:=0) (v:=.pointer (some ⟨b,0,none⟩)) rfl (by decide +kernel) (by decide +kernel) (by decide +kernel) (fun _ _ _ h=>h) (Or.inl ⟨by rfl,fun w' hS=>?_⟩) hS1 ?_
       ·go_simp
       try simp only[Act.put,List.getElem_toArray,List.getElem_cons_succ,List.getElem_cons_zero,List.setIfInBounds_toArray,List.set_cons_zero,List.set_cons_succ]
       refine wpAnyH_take (i:=1) (v:=.int .i64 kd) rfl (by decide +kernel) (by decide +kernel) (by decide +kernel) (fun _ _ _ h=>h) (Or.inl ⟨by rfl,fun w' hS=>?_⟩) hS1 ?_
       ·have c0:=tc w' hS _ _ z0;go_simp
       try simp only[Act.put,List.getElem_toArray,List.getElem_cons_succ,List.getElem_cons_zero,List.setIfInBounds_toArray,List.set_cons_zero,List.set_cons_succ]
       refine wpAnyH_take (i:=2) (v:=.slice A F.length c) rfl (by decide +kernel) (by decide +kernel) (by decide +kernel) (fun _ _ _ h=>h) (Or.inl ⟨by rfl,fun w' hS=>?_⟩) hS1 ?_
       ·go_simp
       try simp only[Act.put,List.getElem_toArray,List.getElem_cons_succ,List.getElem_cons_zero,List.setIfInBounds_toArray,List.set_cons_zero,List.set_cons_succ]
       refine wpAnyH_take (i:=3) (v:=.slice (some ⟨g,o,none⟩) L.length d) rfl (by decide +kernel) (by decide +kernel) (by decide +kernel) (fun _ _ _ h=>h) (Or.inl ⟨by rfl,fun w' hS=>?_⟩) hS1 ?_
       ·go_simp
       try simp only[Act.put,List.getElem_toArray,List.getElem_cons_succ,List.getElem_cons_zero,List.setIfInBounds_toArray,List.set_cons_zero,List.set_cons_succ]
       refine wpAnyH_take (i:=4) (v:=.int .i64 (i:Int)) rfl (by decide +kernel) (by decide +kernel) (by decide +kernel) (fun _ _ _ h=>h) (Or.inl ⟨by rfl,fun w' hS=>?_⟩) hS1 ?_
       ·go_simp
       try simp only[Act.put,List.getElem_toArray,List.getElem_cons_succ,List.getElem_cons_zero,List.setIfInBounds_toArray,List.set_cons_zero,List.set_cons_succ]
       refine wpAnyH_all (rs:=[5]) (by decide +kernel) (by simp) (allH1 rfl (by rfl) (fun K2 hK2=>?_) (allH0 (S:=S0)))
       go_simp
       go_at_call 23
       refine(HP.out.1 _ (H0.out.1.trans ((Below.refl _ W0).drew.mono H0.out.1.size))).mono ?_
       rintro e w8 ⟨rfl,hb⟩
       have H8:=Lib.hid ((Below.refl _ W0).drew.trans hb)
       clear hb
       have hS2:S0 w8:=by rw[hS0];exact H8.out
       refine hK2 _ _ hS2 ?_
       clear hK2 K2
       try simp only[Act.put,List.getElem_toArray,List.getElem_cons_succ,List.getElem_cons_zero,List.setIfInBounds_toArray,List.set_cons_zero,List.set_cons_succ]
       refine wpAnyH_all (rs:=[6]) (by decide +kernel) (by simp) (allH1 rfl (by rfl) (fun K2 hK2=>?_) (allH0 (S:=S0)))
       go_simp
       go_at_call 22
       refine(HP.out.2.1 _).mono ?_
       rintro e w9 ⟨rfl,hb⟩
       have H9:=Lib.hid (H8.out.trans (hb.mono H8.out.size))
       clear hb
       have hS3:S0 w9:=by rw[hS0];exact H9.out
       refine hK2 _ _ hS3 ?_
       clear hK2 K2
       try simp only[Act.put,List.getElem_toArray,List.getElem_cons_succ,List.getElem_cons_zero,List.setIfInBounds_toArray,List.set_cons_zero,List.set_cons_succ]
       refine wpAnyH_take (i:=7) (v:=.bool false) rfl (by decide +kernel) (by decide +kernel) (by decide +kernel) (fun _ _ _ h=>h) (Or.inl ⟨by rfl,fun w' hS=>?_⟩) hS3 ?_
       ·go_simp
       try simp only[Act.put,List.getElem_toArray,List.getElem_cons_succ,List.getElem_cons_zero,List.setIfInBounds_toArray,List.set_cons_zero,List.set_cons_succ]
       refine wpAnyH_take (i:=8) (v:=.bool false) rfl (by decide +kernel) (by decide +kernel) (by decide +kernel) (fun _ _ _ h=>h) (Or.inl ⟨by rfl,fun w' hS=>?_⟩) hS3 ?_
       ·go_simp
       try simp only[Act.put,List.getElem_toArray,List.getElem_cons_succ,List.getElem_cons_zero,List.setIfInBounds_toArray,List.set_cons_zero,List.set_cons_succ]
       refine wpAnyH_take (i:=9) (v:=.pointer (some ⟨b,0,none⟩)) rfl (by decide +kernel) (by decide +kernel) (by decide +kernel) (fun _ _ _ h=>h) (Or.inl ⟨by rfl,fun w' hS=>?_⟩) hS3 ?_
       ·go_simp
       try simp only[Act.put,List.getElem_toArray,List.getElem_cons_succ,List.getElem_cons_zero,List.setIfInBounds_toArray,List.set_cons_zero,List.set_cons_succ]
       refine wpAnyH_take (i:=10) (v:=.int .i64 kd) rfl (by decide +kernel) (by decide +kernel) (by decide +kernel) (fun _ _ _ h=>h) (Or.inl ⟨by rfl,fun w' hS=>?_⟩) hS3 ?_
       ·have c0:=tc w' hS _ _ z0;go_simp
       try simp only[Act.put,List.getElem_toArray,List.getElem_cons_succ,List.getElem_cons_zero,List.setIfInBounds_toArray,List.set_cons_zero,List.set_cons_succ]
       refine wpAnyH_all (rs:=[11]) (by decide +kernel) (by simp) (allH1 rfl (by rfl) (fun K2 hK2=>?_) (allH0 (S:=S0)))
       go_simp
       go_at_call 24
       refine(HP.out.2.2.1 _).mono ?_
       rintro e w7 ⟨rfl,rfl⟩
       have hS4:S0 w9:=by rw[hS0];exact H9.out
       refine hK2 _ _ hS4 ?_
       clear hK2 K2
       try simp only[Act.put,List.getElem_toArray,List.getElem_cons_succ,List.getElem_cons_zero,List.setIfInBounds_toArray,List.set_cons_zero,List.set_cons_succ]
       refine wpAnyH_take (i:=12) (v:=.bool true) rfl (by decide +kernel) (by decide +kernel) (by decide +kernel) (fun _ _ _ h=>h) (Or.inl ⟨by rfl,fun w' hS=>?_⟩) hS4 ?_
       ·go_simp
       try simp only[Act.put,List.getElem_toArray,List.getElem_cons_succ,List.getElem_cons_zero,List.setIfInBounds_toArray,List.set_cons_zero,List.set_cons_succ]
       refine wpAnyH_take (i:=13) (v:=.slice (some ⟨g,o,none⟩) L.length d) rfl (by decide +kernel) (by decide +kernel) (by decide +kernel) (fun _ _ _ h=>h) (Or.inl ⟨by rfl,fun w' hS=>?_⟩) hS4 ?_
       ·go_simp
       try simp only[Act.put,List.getElem_toArray,List.getElem_cons_succ,List.getElem_cons_zero,List.setIfInBounds_toArray,List.set_cons_zero,List.set_cons_succ]
       refine wpAnyH_take (i:=14) (v:=.int .i64 (i:Int)) rfl (by decide +kernel) (by decide +kernel) (by decide +kernel) (fun _ _ _ h=>h) (Or.inl ⟨by rfl,fun w' hS=>?_⟩) hS4 ?_
       ·go_simp
       try simp only[Act.put,List.getElem_toArray,List.getElem_cons_succ,List.getElem_cons_zero,List.setIfInBounds_toArray,List.set_cons_zero,List.set_cons_succ]
       refine wpAnyH_all (rs:=[15]) (by decide +kernel) (by simp) (allH1 rfl (by rfl) (fun K2 hK2=>?_) (allH0 (S:=S0)))
       go_simp
       go_at_call 25
       refine(HP.out.2.2.2.1 _ (H0.out.1.trans (H9.out.mono H0.out.1.size))).mono ?_
       rintro e wz ⟨rfl,hb⟩
       have HZ:=Lib.hid (H9.out.trans (hb.mono H9.out.size))
       clear hb
       have hS5:S0 wz:=by rw[hS0];exact HZ.out
       refine hK2 _ _ hS5 ?_
       clear hK2 K2
       try simp only[Act.put,List.getElem_toArray,List.getElem_cons_succ,List.getElem_cons_zero,List.setIfInBounds_toArray,List.set_cons_zero,List.set_cons_succ]
       refine wpAnyH_take (i:=16) (v:=.bool false) rfl (by decide +kernel) (by decide +kernel) (by decide +kernel) (fun _ _ _ h=>h) (Or.inl ⟨by rfl,fun w' hS=>?_⟩) hS5 ?_
       ·go_simp
       try simp only[Act.put,List.getElem_toArray,List.getElem_cons_succ,List.getElem_cons_zero,List.setIfInBounds_toArray,List.set_cons_zero,List.set_cons_succ]
       refine wpAnyH_take (i:=17) (v:=.bool false) rfl (by decide +kernel) (by decide +kernel) (by decide +kernel) (fun _ _ _ h=>h) (Or.inl ⟨by rfl,fun w' hS=>?_⟩) hS5 ?_
       ·go_simp
       try simp only[Act.put,List.getElem_toArray,List.getElem_cons_succ,List.getElem_cons_zero,List.setIfInBounds_toArray,List.set_cons_zero,List.set_cons_succ]
       refine wpAnyH_take (i:=18) (v:=.bool false) rfl (by decide +kernel) (by decide +kernel) (by decide +kernel) (fun _ _ _ h=>h) (Or.inl ⟨by rfl,fun w' hS=>?_⟩) hS5 ?_
       ·go_simp
       try simp only[Act.put,List.getElem_toArray,List.getElem_cons_succ,List.getElem_cons_zero,List.setIfInBounds_toArray,List.set_cons_zero,List.set_cons_succ]
       refine wpAnyH_done (by decide +kernel) ?_ _)
   all_goals (
     obtain⟨z0,z1,z2,z3⟩:=And.intro (bkp HZ.out z0) (And.intro (bkp HZ.out z1) (And.intro (bkp HZ.out z2) (bkp HZ.out z3)))
     have hB:Below w.heap.size w wz:=H0.out.1.trans (HZ.out.mono H0.out.1.size)
     have HW:=Lib.hid (And.intro hB (first_m F L A _ c d i wz HC.out.2.2.1 hL ((HC.out.1.keep hB (Nat.le_refl _)).mono hB.size) ((HC.out.2.1.keep hB (Nat.le_refl _)).mono hB.size) hil HC.out.2.2.2.1))
     clear hB
     go_upto_region 11 with (
       go_at_call 26
       refine HW.out.2.mono ?_
       rintro e w10 ⟨z,rfl,hz,hb⟩
       have hfd:∀W,(Instr.field 35 (.agg #[.int .i64 z.kd,.string ⟨z.tx.toArray⟩,.int .i64 z.fr,.int .i64 z.to]) 1).run Tryz.prog W=.ok (.string ⟨z.tx.toArray⟩) W:=fun W=>by rfl
       unfold lfv
       have H10:=Lib.hid (And.intro (HW.out.1.trans (hb.mono HW.out.1.size)) (And.intro hz hb))
       clear hz hb)
     clear hfd
     obtain⟨z0,z1,z2⟩:=And.intro (bkp H10.out.2.2 z0) (And.intro (bkp H10.out.2.2 z1) (bkp H10.out.2.2 z2))
     have hTl:z.tx.length≤1000:=by rw[H10.out.2.1];exact fstS_len HC.out.2.2.1 i _
     have hfit:(x.kd=5→(isW F x.fr=true→wsgn (tx F x.fr)=120)∧asgT z.tx=false∧isW F x.tt=false)→(x.kd=16→nameT z.tx=true∧wsgn z.tx=120)→(x.kd=13→nameT z.tx=true)→(x.kd=15→sg F x.fr=40∨wsgn z.tx≠122)→FitL F L i x:=by
       rw[H10.out.2.1]
       exact fun sm fn fo it=>⟨HD.out.1,fun e=>absurd e H12.out.2.1,fun _ _=>HP.out.2.2.2.2.1 (by first|trivial|rfl),HQ.out,sm,fn,fo,it⟩
     have HT:=Lib.hid hfit
     have hb10:=H10.out.1
     obtain⟨hkd,hfr,htt⟩:=H12.out.2.2
     have hlt:=HD.out.1
     have HR:=Lib.hid (fun W=>(reserved_r z.tx W (by omega)))
     have HN:=Lib.hid (fun W=>(isName_r z.tx W (by omega)))
     have hkd2:(kd==5)=decide (x.kd=5)∧(kd==16)=decide (x.kd=16)∧(kd==13)=decide (x.kd=13)∧(kd==15)=decide (x.kd=15):=by
       rw[hkd]
       refine⟨?_,?_,?_,?_⟩<;>(rw[Bool.eq_iff_iff];simp;omega)
     obtain⟨n5,n16,n13,n15⟩:=hkd2
     have e1:fr.toNat=x.fr:=by rw[hfr];exact Int.toNat_natCast _
     have e2:tt.toNat=x.tt:=by rw[htt];exact Int.toNat_natCast _
     by_cases k5:x.kd=5
     ·rw[decide_eq_true k5] at n5
      have hft:=hlt (by omega)
      have v5:fr<(F.length:Int):=by omega
      obtain⟨f,hf⟩:∃f,F[x.fr]? = some f:=⟨_,List.getElem?_eq_getElem (by omega)⟩
      have hfl:=HC.out.2.2.1.t f (List.mem_of_getElem? hf)
      obtain⟨g1,o1,rfl,f0,f1,f2,f3⟩:=lf_cells (HC.out.1.keep hb10 (Nat.le_refl _)) hf rfl
      rw[←e1] at f0 f1 f2 f3
      obtain⟨ka,hka,cA⟩:=rassign_k z.tx (by omega)
      obtain⟨q6,hq6⟩:∃q,q=(f.kd==6):=⟨_,rfl⟩
      obtain⟨qr,hqr⟩:∃q,q=(wsgn f.tx != 120):=⟨_,rfl⟩
      have cR:∀W,Calls Tryz.prog 27 #[.string ⟨f.tx.toArray⟩] W fun e w'=>e=.returned (.bool qr)∧w'=W:=fun W=>by rw[hqr];exact reserved_r f.tx W (by omega)
      have hw1:q6=false∨qr=false→isW F x.fr=true→wsgn (tx F x.fr)=120:=fun h hw=>by
        unfold isW at hw
        rw[hf] at hw
        have e6:q6=true:=by rw[hq6];exact hw
        rw[e6] at h
        have h2:=h.resolve_left (by decide)
        rw[hqr] at h2
        unfold tx
        rw[hf]
        simpa using h2
      obtain⟨qa,hqa⟩:∃q,q=asgT z.tx:=⟨_,rfl⟩
      rw[←hqa] at hka
      have H5:=Lib.hid (And.intro cR (And.intro cA (And.intro hw1 (And.intro hqa hb10))))
      have hka2:qa=true∧0<ka∨qa=false∧¬0<ka:=by
        cases qa
        ·exact .inr ⟨rfl,by simpa using hka⟩
        ·exact .inl ⟨rfl,by simpa using hka⟩
      have hfk:(f.kd==6)=q6:=hq6.symm
      have K5:=Lib.hid k5
      clear cR cA hw1 hqa hka hq6 hqr hb10 k5 hfit hf hkd hlt n16 n13 n15 e1 htt hfr
      have key:(q6=true∧qr=true)∨((q6=false∨(q6=true∧qr=false))∧qa=true)∨((q6=false∨(q6=true∧qr=false))∧qa=false):=by
        cases q6<;>cases qr<;>cases qa<;>simp
      rcases key with ⟨a1,a2⟩|⟨a1,a3⟩|⟨a1,a3⟩
      ·subst a1 a2
       clear hka2
       go_wp2_with (
         go_at_call 27
         refine(H5.out.1 _).mono ?_
         rintro e w' ⟨rfl,rfl⟩)
       go_ret
       exact fitE_no H10.out.1
      ·have t7:0<ka:=by rcases hka2 with ⟨_,h⟩|⟨h,_⟩;exact h;rw[a3] at h;cases h
       clear hka2
       rcases a1 with a1|⟨a1,a2⟩
       case' inl=>subst a1
       case' inr=>subst a1 a2
       all_goals (
         go_wp2_with (first
           | (go_at_call 21
              refine(H5.out.2.1 _).mono ?_
              rintro e w' ⟨rfl,rfl⟩)
           | (go_at_call 27
              refine(H5.out.1 _).mono ?_
              rintro e w' ⟨rfl,rfl⟩)
           | fail)
         go_ret
         exact fitE_no H10.out.1)
      ·have t7:¬0<ka:=by rcases hka2 with ⟨h,_⟩|⟨_,h⟩;rw[a3] at h;cases h;exact h
       have hfin:isW F x.tt=false→FitL F L i x:=fun h=>HT.out (fun _=>⟨H5.out.2.2.1 (a1.imp id And.right),by rw[←H5.out.2.2.2.1];exact a3,h⟩) (fun e=>absurd (K5.out.symm.trans e) (by decide)) (fun e=>absurd (K5.out.symm.trans e) (by decide)) (fun e=>absurd (K5.out.symm.trans e) (by decide))
       have HF:=Lib.hid hfin
       clear hka2 hfin
       by_cases htl:x.tt=F.length
       ·have t8:(tt==(F.length:Int))=true:=by rw[←Int.toNat_of_nonneg v3,e2,htl];simp
        have HL:=Lib.hid htl
        clear htl e2
        rcases a1 with a1|⟨a1,a2⟩
        case' inl=>subst a1
        case' inr=>subst a1 a2
        all_goals (
          go_wp2_with (first
            | (go_at_call 21
               refine(H5.out.2.1 _).mono ?_
               rintro e w' ⟨rfl,rfl⟩)
            | (go_at_call 27
               refine(H5.out.1 _).mono ?_
               rintro e w' ⟨rfl,rfl⟩)
            | fail)
          go_ret
          exact fitE_yes H10.out.1 fun _=>HF.out (by unfold isW;rw[HL.out,List.getElem?_eq_none (Nat.le_refl _)]))
       ·have t8:(tt==(F.length:Int))=false:=beq_false_of_ne (by omega)
        have v6:tt<(F.length:Int):=by omega
        obtain⟨fg,hfg⟩:∃f,F[x.tt]? = some f:=⟨_,List.getElem?_eq_getElem (by omega)⟩
        have hgl2:=HC.out.2.2.1.t fg (List.mem_of_getElem? hfg)
        obtain⟨g9,o9,e9,r0,r1,r2,r3⟩:=lf_cells (HC.out.1.keep H10.out.1 (Nat.le_refl _)) hfg rfl
        cases e9
        rw[←e2] at r0 r1 r2 r3
        obtain⟨gk,hgk⟩:∃z,z=fg.kd:=⟨_,rfl⟩
        have hsg:∀W,Calls Tryz.prog 28 #[.agg #[.int .i64 gk,.string ⟨fg.tx.toArray⟩,.int .i64 fg.fr,.int .i64 fg.to]] W fun e w'=>e=.returned (.string ⟨[sgnL fg].toArray⟩)∧Below W.heap.size W w':=fun W=>by rw[hgk];exact rsign_m fg W (by omega)
        rw[←hgk] at r0
        have HG:=Lib.hid (And.intro hsg (show gk≠6→isW F x.tt=false from fun h=>by unfold isW;rw[hfg];simp;rw[←hgk];exact h))
        clear hsg hgk hfg htl e2
        have key:gk=6∨(gk≠6∧gk=5)∨(gk≠6∧gk≠5):=by omega
        rcases key with c6|⟨c6,c5⟩|⟨c6,c5⟩
        case' inl=>have c9:(gk != 6)=false:=by rw[c6];rfl
        case' inr.inl=>
          have c9:(gk != 6)=true:=by simpa using c6
          have c8:(gk != 5)=false:=by rw[c5];rfl
        case' inr.inr=>
          have c9:(gk != 6)=true:=by simpa using c6
          have c8:(gk != 5)=true:=by simpa using c5
        all_goals (
          have C6:=Lib.hid c6
          try clear c5
          clear c6
          rcases a1 with a1|⟨a1,a2⟩
          case' inl=>subst a1
          case' inr=>subst a1 a2
          all_goals (
            go_wp2_with (first
              | (go_at_call 28
                 refine(HG.out.1 _).mono ?_
                 rintro e w11 ⟨rfl,hb⟩
                 have H11:=Lib.hid (H10.out.1.trans (hb.mono H10.out.1.size))
                 clear hb)
              | (go_at_call 21
                 refine(H5.out.2.1 _).mono ?_
                 rintro e w' ⟨rfl,rfl⟩)
              | (go_at_call 27
                 refine(H5.out.1 _).mono ?_
                 rintro e w' ⟨rfl,rfl⟩)
              | fail)
            go_ret
            first
              | exact fitE_no H10.out.1
              | exact fitE_yes H11.out fun _=>HF.out (HG.out.2 C6.out)))
     rw[decide_eq_false k5] at n5
     clear hkd hlt htt e2
     by_cases k16:x.kd=16
     ·rw[decide_eq_true k16] at n16
      have hfin:∀b,(b=true→nameT z.tx=true∧wsgn z.tx=120)→b=true→FitL F L i x:=fun b h hb=>HT.out (fun e=>absurd (k16.symm.trans e) (by decide)) (fun _=>h hb) (fun e=>absurd (k16.symm.trans e) (by decide)) (fun e=>absurd (k16.symm.trans e) (by decide))
      obtain⟨qn,hqn⟩:∃q,q=nameT z.tx:=⟨_,rfl⟩
      obtain⟨qr,hqr⟩:∃q,q=(wsgn z.tx != 120):=⟨_,rfl⟩
      have cI:∀W,Calls Tryz.prog 29 #[.string ⟨z.tx.toArray⟩] W fun e w'=>e=.returned (.bool qn)∧W=w':=fun W=>by rw[hqn,←isName_T];exact HN.out W
      have cR:∀W,Calls Tryz.prog 27 #[.string ⟨z.tx.toArray⟩] W fun e w'=>e=.returned (.bool qr)∧W=w':=fun W=>by rw[hqr];exact(HR.out W).mono fun e w' h=>⟨h.1,h.2.symm⟩
      have H6:=Lib.hid (And.intro cI (And.intro cR (And.intro hfin (And.intro hqn hqr))))
      clear cI cR hfin hqn hqr hfit hb10 n13 n15 k5 k16
      cases qn<;>cases qr
      all_goals (
        go_wp2_with (first
          | (go_at_call 27
             refine(H6.out.2.1 _).mono ?_
             rintro e w' ⟨rfl,rfl⟩)
          | (go_at_call 29
             refine(H6.out.1 _).mono ?_
             rintro e w' ⟨rfl,rfl⟩)
          | fail)
        go_ret
        first
          | exact fitE_no H10.out.1
          | exact fitE_yes H10.out.1 (H6.out.2.2.1 _ fun _=>⟨H6.out.2.2.2.1.symm,by simpa using H6.out.2.2.2.2⟩))
     rw[decide_eq_false k16] at n16
     by_cases k13:x.kd=13
     ·rw[decide_eq_true k13] at n13
      have hfin:∀b,(b=true→nameT z.tx=true)→b=true→FitL F L i x:=fun b h hb=>HT.out (fun e=>absurd (k13.symm.trans e) (by decide)) (fun e=>absurd (k13.symm.trans e) (by decide)) (fun _=>h hb) (fun e=>absurd (k13.symm.trans e) (by decide))
      obtain⟨qn,hqn⟩:∃q,q=nameT z.tx:=⟨_,rfl⟩
      have cI:∀W,Calls Tryz.prog 29 #[.string ⟨z.tx.toArray⟩] W fun e w'=>e=.returned (.bool qn)∧W=w':=fun W=>by rw[hqn,←isName_T];exact HN.out W
      have H6:=Lib.hid (And.intro cI (And.intro hfin hqn))
      clear cI hfin hqn hfit hb10 n15 k5 k16 k13
      go_wp2_with (
        go_at_call 29
        refine(H6.out.1 _).mono ?_
        rintro e w' ⟨rfl,rfl⟩)
      go_ret
      exact fitE_yes H10.out.1 (H6.out.2.1 _ fun h=>H6.out.2.2.symm.trans h)
     rw[decide_eq_false k13] at n13
     by_cases k15:x.kd=15
     ·rw[decide_eq_true k15] at n15
      have hft:=HD.out.1 (by omega)
      have v5:fr<(F.length:Int):=by omega
      obtain⟨f,hf⟩:∃f,F[x.fr]? = some f:=⟨_,List.getElem?_eq_getElem (by omega)⟩
      have hfl:=HC.out.2.2.1.t f (List.mem_of_getElem? hf)
      obtain⟨g1,o1,rfl,f0,f1,f2,f3⟩:=lf_cells (HC.out.1.keep hb10 (Nat.le_refl _)) hf rfl
      rw[←e1] at f0 f1 f2 f3
      have hsgf:sg F x.fr=sgnL f:=by unfold sg;rw[hf]
      have hsg:∀W,Calls Tryz.prog 28 #[.agg #[.int .i64 f.kd,.string ⟨f.tx.toArray⟩,.int .i64 f.fr,.int .i64 f.to]] W fun e w'=>e=.returned (.string ⟨[sgnL f].toArray⟩)∧Below W.heap.size W w':=fun W=>rsign_m f W (by omega)
      have hfin:∀b,(b=true→sg F x.fr=40∨wsgn z.tx≠122)→b=true→FitL F L i x:=fun b h hb=>HT.out (fun e=>absurd (k15.symm.trans e) (by decide)) (fun e=>absurd (k15.symm.trans e) (by decide)) (fun e=>absurd (k15.symm.trans e) (by decide)) (fun _=>h hb)
      have H6:=Lib.hid (And.intro hsg (And.intro hfin hsgf))
      clear hsg hfin hsgf hfit hb10 k5 k16 k13 k15 hf e1 hfr
      go_wp2_with (
        go_at_call 28
        refine(H6.out.1 _).mono ?_
        rintro e w11 ⟨rfl,hb⟩
        have H11:=Lib.hid (H10.out.1.trans (hb.mono H10.out.1.size))
        clear hb)
      ·rename_i h40
       go_ret
       exact fitE_yes H11.out (H6.out.2.1 _ fun _=>.inl (H6.out.2.2.trans h40))
      ·rename_i h40
       go_ret
       exact fitE_yes H11.out (H6.out.2.1 _ fun h=>.inr (wsgn_ne fun e=>by rw[e,beq_false_of_ne h40] at h;exact absurd h (by decide)))
     rw[decide_eq_false k15] at n15
     have hfin:FitL F L i x:=HT.out (fun e=>absurd e k5) (fun e=>absurd e k16) (fun e=>absurd e k13) (fun e=>absurd e k15)
     have H6:=Lib.hid hfin
     clear hfin hfit hb10 k5 k16 k13 k15 e1
     go_wp2_with fail
     go_ret
     exact fitE_yes H10.out.1 fun _=>H6.out)
end Go.Proofs.YtlbfdbinaekjoaaGreatDoor
