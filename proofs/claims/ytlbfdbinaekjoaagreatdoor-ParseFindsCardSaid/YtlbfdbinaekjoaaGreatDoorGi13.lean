/- quillwortref12.Row, Deep and first: the walks. -/
import Derived.Test.YtlbfdbinaekjoaaGreatDoorGh13
import Derived.Test.YtlbfdbinaekjoaaGreatDoorGf13
import Derived.Test.YtlbfdbinaekjoaaGreatDoorRh13
import Derived.Test.YtlbfdbinaekjoaaGreatDoorPm13
import Derived.Test.YtlbfdbinaekjoaaGreatDoorSh13
import Derived.BigQuiet
namespace Go.Proofs.YtlbfdbinaekjoaaGreatDoor
open Go.RowKit
set_option linter.unusedVariables false
set_option linter.unusedSimpArgs false
set_option maxRecDepth 100000
theorem sgR_len (F:List Lf) (a b:Nat):(sgR F a b).length=b-a:=by simp[sgR]
def NdB (F:List Lf) (L:List Nd):Prop:=∀(j:Nat) (y:Nd),L[j]? = some y→(1≤y.kd∧y.kd≤18)∧y.fr≤y.tt∧y.tt≤F.length
theorem rowS_len {F:List Lf} {L:List Nd} (h:NdB F L) (hF:F.length≤40) (i:Nat):∀(n k p:Nat),n=L.length-k→(rowS F i (L.drop k) p).1.length≤41*n
  | 0,k,p,hn=>by rw[List.drop_eq_nil_of_le (by omega)];exact Nat.zero_le _
  | n+1,k,p,hn=>by
    have hk:k<L.length:=by omega
    rw[List.drop_eq_getElem_cons hk]
    show (if _ then _ else _:List UInt8×Nat).1.length≤_
    have hy:=h k _ (List.getElem?_eq_getElem hk)
    split
    ·show (sgR F p _++_::(rowS F i (L.drop (k+1)) _).1).length≤_
     have:=rowS_len h hF i n (k+1) (L[k]).tt (by omega)
     rw[List.length_append,sgR_len,List.length_cons]
     omega
    ·have:=rowS_len h hF i n (k+1) p (by omega)
     omega
theorem rowN_len {F:List Lf} {L:List Nd} (h:NdB F L) (hF:F.length≤40) (hL:L.length≤200) {i:Nat} {x:Nd} (hx:L[i]? = some x):(rowN F L i x).length≤10000:=by
  have h1:=rowS_len h hF i (L.length-(i+1)) (i+1) x.fr rfl
  have h2:=h i x hx
  unfold rowN
  rw[List.length_append,sgR_len]
  omega
theorem rowS_yes {F:List Lf} {i p:Nat} {y:Nd} {l:List Nd} (h:y.up=(i:Int)):rowS F i (y::l) p=(sgR F p y.fr++ltr y.kd::(rowS F i l y.tt).1,(rowS F i l y.tt).2):=if_pos h
theorem rowS_no {F:List Lf} {i p:Nat} {y:Nd} {l:List Nd} (h:y.up≠(i:Int)):rowS F i (y::l) p=rowS F i l p:=if_neg h
theorem rowS_ne (F:List Lf) (i:Nat):∀(l:List Nd) (p:Nat),(rowS F i l p).1=[]→(rowS F i l p).2=p
  | [],p,_=>rfl
  | n::r,p,h=>by
    unfold rowS at h ⊢
    split
    ·rename_i hu
     rw[if_pos hu] at h
     simp at h
    ·rename_i hu
     rw[if_neg hu] at h
     exact rowS_ne F i r p h
theorem rowN_ne {F:List Lf} {L:List Nd} {i:Nat} {x:Nd} (h:x.fr<x.tt):rowN F L i x≠[]:=by
  intro e
  obtain⟨h1,h2⟩:=List.append_eq_nil_iff.1 e
  rw[rowS_ne F i _ _ h1,sgR_cons F h] at h2
  cases h2
theorem ltr_str {k:Nat} (h:1≤k∧k≤18):(ByteArray.mk #[63,80,76,65,73,83,88,87,82,66,85,70,72,79,67,84,78,69,77]).extract k (k+1)=⟨[ltr k].toArray⟩:=by
  have key:∀k,k<19→1≤k→(([63,80,76,65,73,83,88,87,82,66,85,70,72,79,67,84,78,69,77]:List UInt8).take (k+1)).drop k=[ltr k]:=by decide
  have:=ba_extract [63,80,76,65,73,83,88,87,82,66,85,70,72,79,67,84,78,69,77] k (k+1)
  rw[key k (by omega) h.1] at this
  exact this
set_option maxHeartbeats 8000000 in
theorem row_m (F:List Lf) (L:List Nd) (A B:Option Addr) (c d i:Nat) (x:Nd) (w:World) (hF:FB F) (hF4:F.length≤40) (hL:L.length≤200) (h1:Rd w w.heap.size 4 (.slice A F.length c) F.length (lfcs F)) (h2:Rd w w.heap.size 4 (.slice B L.length d) L.length (ndcs L)) (hx:L[i]? = some x) (hN:NdB F L) :
    Calls Tryz.prog 23 #[.slice A F.length c,.slice B L.length d,.int .i64 (i:Int)] w fun e w'=>e=.returned (.string ⟨(rowN F L i x).toArray⟩)∧Below w.heap.size w w':=by
  have hil:=(List.getElem?_eq_some_iff.1 hx).1
  have hxb:=hN i x hx
  have hTl:=rowN_len hN hF4 hL hx
  obtain⟨T,hT⟩:∃T,T=rowN F L i x:=⟨_,rfl⟩
  rw[←hT] at hTl ⊢
  obtain⟨g,o,rfl,_,hc⟩:=rd_sat ndc_len h2 hx rfl
  have y1:w.cell? ⟨g,o+i*4+1,none⟩=some (.int .i64 (x.fr:Int)):=hc 1 _ rfl
  have y2:∀W,Below w.heap.size w W→W.cell? ⟨g,o+i*4+2,none⟩=some (.int .i64 (x.tt:Int)):=fun W hW=>by
    obtain⟨g0,o0,e0,_,hc⟩:=rd_sat ndc_len (h2.keep hW (Nat.le_refl _)) hx rfl
    cases e0
    exact hc 2 _ rfl
  have u0:(i:Int)<(L.length:Int):=by omega
  have u1:(0:Int)≤(i:Int):=by omega
  have HC:=Lib.hid (And.intro h1 (And.intro h2 (And.intro hF (And.intro hN (And.intro hT (And.intro y2 hxb))))))
  clear h1 h2 hF hN hT y2 hc
  go_enter Tryz.func23,Tryz.ntmps23
  go_wp2_with fail
  go_loopw [7,8,9] (fun st sp sk wr=>∃(t:List UInt8) (p k:Nat),i+1≤k∧k≤L.length∧p≤F.length∧st=.string ⟨t.toArray⟩∧sp=.int .i64 (p:Int)∧sk=.int .i64 (k:Int)∧T=t++((rowS F i (L.drop k) p).1++sgR F (rowS F i (L.drop k) p).2 x.tt)∧Below w.heap.size w wr) (fun _ _ sk _=>L.length-(intOf sk).toNat)
  case atStart=>exact⟨[],x.fr,i+1,Nat.le_refl _,by omega,by omega,rfl,rfl,by go_num,HC.out.2.2.2.2.1,Below.refl _ _⟩
  case round=>
    obtain⟨t,p,k,hik,hk,hp,rfl,rfl,rfl,hTt,hb⟩:=hrel
    by_cases hlt:k<L.length
    ·have v1:(k:Int)<(L.length:Int):=by omega
     have v2:(0:Int)≤(k:Int):=by omega
     obtain⟨y,hy⟩:∃y,L[k]? = some y:=⟨_,List.getElem?_eq_getElem hlt⟩
     have hyb:=HC.out.2.2.2.1 k y hy
     have hyc:∀W,Below w.heap.size w W→W.cell? ⟨g,o+k*4,none⟩=some (.int .i64 (y.kd:Int))∧W.cell? ⟨g,o+k*4+1,none⟩=some (.int .i64 (y.fr:Int))∧W.cell? ⟨g,o+k*4+2,none⟩=some (.int .i64 (y.tt:Int))∧W.cell? ⟨g,o+k*4+3,none⟩=some (.int .i64 y.up):=fun W hW=>by
       obtain⟨g0,o0,e0,_,hc⟩:=rd_sat ndc_len (HC.out.2.1.keep hW (Nat.le_refl _)) hy rfl
       cases e0
       exact⟨hc 0 _ rfl,hc 1 _ rfl,hc 2 _ rfl,hc 3 _ rfl⟩
     have hdr:L.drop k=y::L.drop (k+1):=by
       rw[List.drop_eq_getElem_cons hlt]
       congr 1
       rw[List.getElem?_eq_getElem hlt] at hy
       exact Option.some.inj hy
     rw[hdr] at hTt
     have z3:=(hyc wr hb).2.2.2
     by_cases hup:y.up=(i:Int)
     ·have e:T=t++(sgR F p y.fr++(ltr y.kd::((rowS F i (L.drop (k+1)) y.tt).1++sgR F (rowS F i (L.drop (k+1)) y.tt).2 x.tt))):=by
        rw[hTt,rowS_yes hup]
        simp only[List.append_assoc,List.cons_append]
      rw[hup] at z3
      obtain⟨M,hM⟩:∃M,M=(ltr y.kd::((rowS F i (L.drop (k+1)) y.tt).1++sgR F (rowS F i (L.drop (k+1)) y.tt).2 x.tt)):=⟨_,rfl⟩
      rw[←hM] at e
      have HE:=Lib.hid (And.intro e (And.intro hb (And.intro hyc (And.intro hM (And.intro hyb (And.intro hy hup))))))
      have HP:=Lib.hid hp
      clear e hb hyc hM hTt hdr hy hup
      go_upto_block 7 with fail
      clear z3
      go_loopw [7,8] (fun st sp wv=>∃(s:List UInt8) (a:Nat),a≤F.length∧st=.string ⟨s.toArray⟩∧sp=.int .i64 (a:Int)∧T=s++(sgR F a y.fr++M)∧Below w.heap.size w wv) (fun st sp _=>F.length-(intOf sp).toNat)
      case atStart=>exact⟨t,p,HP.out,rfl,rfl,HE.out.1,HE.out.2.1⟩
      case round=>
        obtain⟨s,a,ha,rfl,rfl,hTs,hb⟩:=hrel
        have z1:=(HE.out.2.2.1 _ hb).2.1
        by_cases haf:a<y.fr
        ·have t1:(a:Int)<(y.fr:Int):=by omega
         have q1:(a:Int)<(F.length:Int):=by omega
         have q2:(0:Int)≤(a:Int):=by omega
         obtain⟨f,hf⟩:∃f,F[a]? = some f:=⟨_,List.getElem?_eq_getElem (by omega)⟩
         have hfl:=HC.out.2.2.1.t f (List.mem_of_getElem? hf)
         obtain⟨g1,o1,rfl,f0,f1,f2,f3⟩:=lf_cells (HC.out.1.keep hb (Nat.le_refl _)) hf rfl
         have hsg:sg F a=sgnL f:=by unfold sg;rw[hf]
         rw[sgR_cons F haf,hsg] at hTs
         have hsl:s.length≤10000:=by have:=congrArg List.length hTs;rw[List.length_append] at this;omega
         have HS:=Lib.hid (show ByteArray.mk s.toArray++ByteArray.mk [sgnL f].toArray=⟨(s++[sgnL f]).toArray⟩ from ba_append _ _)
         have HB:=Lib.hid (And.intro hb hTs)
         have hs9:=hb.size
         clear hb hTs hf hsg
         go_wp2_with (
           (go_at_call 28
            refine(rsign_m f _ (by omega)).mono ?_
            rintro e w2 ⟨rfl,hb2⟩
            have H2:=Lib.hid (HB.out.1.trans (hb2.mono hs9))
            clear hb2))
         exact⟨⟨s++[sgnL f],a+1,by omega,congrArg Value.string HS.out,by go_num,by rw[HB.out.2];simp,H2.out⟩,by simp[intOf]<;>omega⟩
        ·have t1:¬(a:Int)<(y.fr:Int):=by omega
         have e1:sgR F a y.fr=[]:=by unfold sgR;rw[show y.fr-a=0 by omega];rfl
         rw[e1,List.nil_append,HE.out.2.2.2.1] at hTs
         obtain⟨z0,z1,z2,z3⟩:=HE.out.2.2.1 _ hb
         have hsl:s.length≤10000:=by have:=congrArg List.length hTs;rw[List.length_append] at this;omega
         have w1:IntKind.i64.wrap ((y.kd:Int)+1)=((y.kd+1:Nat):Int):=by rw[IntWalk.i64_in _ (by omega)];rfl
         have HS:=Lib.hid (And.intro (ltr_str HE.out.2.2.2.2.1.1) (show ByteArray.mk s.toArray++ByteArray.mk [ltr y.kd].toArray=⟨(s++[ltr y.kd]).toArray⟩ from ba_append _ _))
         have HB:=Lib.hid (And.intro hb hTs)
         clear hb hTs
         go_upto_region 10 with fail
         go_quiet (fail)
         go_wp2_with fail
         refine⟨⟨s++[ltr y.kd],y.tt,k+1,by omega,by omega,by omega,?_,rfl,by go_num,?_,below_drewN' HB.out.1 _⟩,by simp[intOf]<;>omega⟩
         ·refine congrArg Value.string ?_
          have a1:=HS.out.1
          have a2:=HS.out.2
          first
            | exact(congrArg (fun z=>ByteArray.mk s.toArray++z) a1).trans a2
            | (rw[show ((y.kd:Int)).toNat=y.kd from Int.toNat_natCast _];trace_state;sorry)
            | (trace_state;sorry)
         ·rw[HB.out.2];simp
     ·have t1:(y.up==(i:Int))=false:=beq_false_of_ne hup
      rw[rowS_no hup] at hTt
      have HB:=Lib.hid (And.intro hb hTt)
      have HP:=Lib.hid hp
      clear hb hTt hdr hyc hyb hy hp hup
      go_wp2_with fail
      exact⟨⟨t,p,k+1,by omega,by omega,HP.out,rfl,rfl,by go_num,HB.out.2,HB.out.1⟩,by simp[intOf]<;>omega⟩
    ·obtain rfl:k=L.length:=by omega
     rw[List.drop_eq_nil_of_le (Nat.le_refl _)] at hTt
     have hTt:T=t++sgR F p x.tt:=hTt
     have HB:=Lib.hid (And.intro hb hTt)
     have HP:=Lib.hid hp
     clear hb hTt hp
     go_upto_block 12 with fail
     go_loopw [7,8] (fun st sp wv=>∃(s:List UInt8) (a:Nat),a≤F.length∧st=.string ⟨s.toArray⟩∧sp=.int .i64 (a:Int)∧T=s++sgR F a x.tt∧Below w.heap.size w wv) (fun st sp _=>F.length-(intOf sp).toNat)
     case atStart=>exact⟨t,p,HP.out,rfl,rfl,HB.out.2,HB.out.1⟩
     case round=>
       obtain⟨s,a,ha,rfl,rfl,hTs,hb⟩:=hrel
       have z1:=HC.out.2.2.2.2.2.1 _ hb
       by_cases haf:a<x.tt
       ·have t1:(a:Int)<(x.tt:Int):=by omega
        have q1:(a:Int)<(F.length:Int):=by omega
        have q2:(0:Int)≤(a:Int):=by omega
        obtain⟨f,hf⟩:∃f,F[a]? = some f:=⟨_,List.getElem?_eq_getElem (by omega)⟩
        have hfl:=HC.out.2.2.1.t f (List.mem_of_getElem? hf)
        obtain⟨g1,o1,rfl,f0,f1,f2,f3⟩:=lf_cells (HC.out.1.keep hb (Nat.le_refl _)) hf rfl
        have hsg:sg F a=sgnL f:=by unfold sg;rw[hf]
        rw[sgR_cons F haf,hsg] at hTs
        have hsl:s.length≤10000:=by have:=congrArg List.length hTs;rw[List.length_append] at this;omega
        have HS:=Lib.hid (show ByteArray.mk s.toArray++ByteArray.mk [sgnL f].toArray=⟨(s++[sgnL f]).toArray⟩ from ba_append _ _)
        have HZ:=Lib.hid (And.intro hb hTs)
        have hs9:=hb.size
        clear hb hTs hf hsg
        go_wp2_with (
          (go_at_call 28
           refine(rsign_m f _ (by omega)).mono ?_
           rintro e w2 ⟨rfl,hb2⟩
           have H2:=Lib.hid (HZ.out.1.trans (hb2.mono hs9))
           clear hb2))
        exact⟨⟨s++[sgnL f],a+1,by omega,congrArg Value.string HS.out,by go_num,by rw[HZ.out.2];simp,H2.out⟩,by simp[intOf]<;>omega⟩
       ·have t1:¬(a:Int)<(x.tt:Int):=by omega
        have e1:sgR F a x.tt=[]:=by unfold sgR;rw[show x.tt-a=0 by omega];rfl
        rw[e1,List.append_nil] at hTs
        subst hTs
        have HZ:=Lib.hid hb
        clear hb
        go_wp2_with fail
        go_ret
        exact⟨rfl,HZ.out⟩
end Go.Proofs.YtlbfdbinaekjoaaGreatDoor
namespace Go.Proofs.YtlbfdbinaekjoaaGreatDoor
open Go.RowKit
set_option linter.unusedVariables false
set_option linter.unusedSimpArgs false
set_option maxRecDepth 100000
def nestB (k:Nat):Bool:=decide (9≤k)&&decide (k≤14)||k==16
theorem nst_b (k:Nat):nst k=if nestB k=true then 1 else 0:=by
  unfold nst nestB
  by_cases h:9≤k∧k≤14∨k=16
  ·rw[if_pos h,if_pos (by simp;omega)]
  ·rw[if_neg h,if_neg (by simp;omega)]
set_option maxHeartbeats 1000000 in
theorem nests_r (k:Nat) (W:World):Calls Tryz.prog 24 #[.int .i64 (k:Int)] W fun e w'=>e=.returned (.bool (nestB k))∧w'=W:=by
  obtain⟨z,hz⟩:∃z:Int,z=(k:Int):=⟨_,rfl⟩
  rw[←hz]
  have key:(k<9∨(9≤k∧k≤14))∨k=16∨(14<k∧k≠16):=by omega
  rcases key with (h|⟨h1,h2⟩)|h|⟨h1,h2⟩
  case' inl.inl=>
    have e:nestB k=false:=by unfold nestB;rw[decide_eq_false (by omega),beq_false_of_ne (by omega)];rfl
    have t1:decide (9≤z)=false:=decide_eq_false (by omega)
    have t3:(z==16)=false:=beq_false_of_ne (by omega)
  case' inl.inr=>
    have e:nestB k=true:=by unfold nestB;rw[decide_eq_true h1,decide_eq_true h2];rfl
    have t1:decide (9≤z)=true:=decide_eq_true (by omega)
    have t2:decide (z≤14)=true:=decide_eq_true (by omega)
  case' inr.inl=>
    have e:nestB k=true:=by subst h;rfl
    have t1:decide (9≤z)=true:=decide_eq_true (by omega)
    have t2:decide (z≤14)=false:=decide_eq_false (by omega)
    have t3:(z==16)=true:=by rw[hz,h];rfl
  case' inr.inr=>
    have e:nestB k=false:=by unfold nestB;rw[decide_eq_false (p:=k≤14) (by omega),beq_false_of_ne h2,Bool.and_false];rfl
    have t1:decide (9≤z)=true:=decide_eq_true (by omega)
    have t2:decide (z≤14)=false:=decide_eq_false (by omega)
    have t3:(z==16)=false:=beq_false_of_ne (by omega)
  all_goals (
    rw[e]
    clear e hz
    go_enter Tryz.func24,Tryz.ntmps24
    go_wp2
    go_ret
    exact⟨rfl,rfl⟩)
def UpB (L:List Nd):Prop:=∀(j:Nat) (y:Nd),L[j]? = some y→y.up<(j:Int) ∧ -1≤y.up
theorem above_n (L:List Nd) (B:Option Addr) (d a i:Nat) (W:World) (hL:L.length≤200) (h:Rd W W.heap.size 4 (.slice B L.length d) L.length (ndcs L)) (hi:i<L.length) (hU:UpB L) :
    Calls Tryz.prog 20 #[.slice B L.length d,.int .i64 (a:Int),.int .i64 (i:Int)] W fun e w'=>e=.returned (.bool (abN L a i))∧w'=W:=by
  have hl:(L.map nz).length=L.length:=List.length_map ..
  have:=abovez_m (L.map nz) B d a i (i+1) W (by omega) (by rw[←ndcs_nz,hl];exact h) (by omega) (by omega) (fun j x _ hx=>by
    rw[List.getElem?_map] at hx
    obtain⟨y,hy,rfl⟩:=Option.map_eq_some_iff.1 hx
    exact hU j y hy)
  rw[hl] at this
  exact this
set_option maxHeartbeats 4000000 in
theorem deep_m (L:List Nd) (B:Option Addr) (d i:Nat) (w:World) (hL:L.length≤200) (h:Rd w w.heap.size 4 (.slice B L.length d) L.length (ndcs L)) (hi:i<L.length) (hU:UpB L) :
    Calls Tryz.prog 25 #[.slice B L.length d,.int .i64 (i:Int)] w fun e w'=>e=.returned (.int .i64 (cntK L i i:Int))∧Below w.heap.size w w':=by
  have hcl:∀k,cntK L i k≤k:=by
    intro k
    induction k with
    | zero=>exact Nat.le_refl _
    | succ k ih=>
      have key:cntK L i k+(match L[k]? with|some z=>if nst z.kd=1∧abN L k i=true then 1 else 0|none=>0)≤k+1:=by
        cases L[k]? with
        | none=>exact Nat.le_succ_of_le ih
        | some z=>
          show cntK L i k+(if _ then 1 else 0)≤k+1
          split<;>omega
      exact key
  have HC:=Lib.hid (And.intro h (And.intro hU hcl))
  clear h hU hcl
  go_enter Tryz.func25,Tryz.ntmps25
  go_wp2_with fail
  go_loopw [5,6] (fun sn sk wr=>∃k:Nat,k≤i∧sn=.int .i64 (cntK L i k:Int)∧sk=.int .i64 k∧Below w.heap.size w wr) (fun _ sk _=>i-(intOf sk).toNat)
  case atStart=>exact⟨0,Nat.zero_le _,rfl,rfl,Below.refl _ _⟩
  case round=>
    obtain⟨k,hk,rfl,rfl,hb⟩:=hrel
    by_cases hlt:k<i
    ·have u1:(k:Int)<(i:Int):=by omega
     have u2:(0:Int)≤(k:Int):=by omega
     have u3:(k:Int)<(L.length:Int):=by omega
     obtain⟨y,hy⟩:∃y,L[k]? = some y:=⟨_,List.getElem?_eq_getElem (by omega)⟩
     have hR:=HC.out.1.keep hb (Nat.le_refl _)
     obtain⟨g,o,rfl,_,hc⟩:=rd_sat ndc_len hR hy rfl
     have z0:wr.cell? ⟨g,o+k*4,none⟩=some (.int .i64 (y.kd:Int)):=hc 0 _ rfl
     have cA:=above_n L _ d k i wr hL (hR.mono hb.size) hi HC.out.2.1
     have cN:=nests_r y.kd wr
     have hs:cntK L i (k+1)=cntK L i k+(if nestB y.kd=true∧abN L k i=true then 1 else 0):=by
       show cntK L i k+_=_
       rw[hy]
       simp only[nst_b]
       by_cases h1:nestB y.kd=true<;>simp[h1]
     have hle:=HC.out.2.2 k
     obtain⟨m,hm⟩:∃m,m=cntK L i k:=⟨_,rfl⟩
     obtain⟨b,hb1⟩:∃b,b=nestB y.kd:=⟨_,rfl⟩
     obtain⟨q,hq⟩:∃q,q=abN L k i:=⟨_,rfl⟩
     rw[←hm,←hb1,←hq] at hs
     rw[←hb1] at cN
     rw[←hq] at cA
     rw[←hm] at hle
     rw[←hm]
     have H:=Lib.hid (And.intro hb (And.intro cA (And.intro cN hs)))
     clear hb cA cN hs hb1 hq hm hR hc hy
     cases b<;>cases q
     all_goals (
       go_wp2_with (first
         | (go_at_call 20
            refine H.out.2.1.mono ?_
            rintro e w' ⟨rfl,rfl⟩)
         | (go_at_call 24
            refine H.out.2.2.1.mono ?_
            rintro e w' ⟨rfl,rfl⟩)
         | fail)
       refine⟨⟨k+1,by omega,?_,by go_num,H.out.1⟩,by simp[intOf]<;>omega⟩
       rw[H.out.2.2.2]
       first|rfl|(simp;done)|(congr 1;simp<;>omega))
    ·obtain rfl:k=i:=by omega
     have H:=Lib.hid hb
     clear hb
     go_wp2_with fail
     go_ret
     exact⟨rfl,H.out⟩
theorem fin4 {P:Program} {fn:Func} {R:Ending→World→Prop} {e:Exit} {a:Act} {w:World} {c:Nat} {t:TypeId} {u0 u1 u2 u3 v0 v1 v2 v3:Value} (hb:Bk w c t #[u0,u1,u2,u3])
    (h:∀F,Bk F c t #[v0,v1,v2,v3]→w.grownBy F (some c)→F.cell? ⟨c,0,none⟩=some v0→F.cell? ⟨c,1,none⟩=some v1→F.cell? ⟨c,2,none⟩=some v2→F.cell? ⟨c,3,none⟩=some v3→bodyPost P fn R e a F) :
    bodyPost P fn R e a ((((w.setCell ⟨c,0,none⟩ v0).setCell ⟨c,1,none⟩ v1).setCell ⟨c,2,none⟩ v2).setCell ⟨c,3,none⟩ v3):=by
  have hF:Bk ((((w.setCell ⟨c,0,none⟩ v0).setCell ⟨c,1,none⟩ v1).setCell ⟨c,2,none⟩ v2).setCell ⟨c,3,none⟩ v3) c t #[v0,v1,v2,v3]:=by simpa using (((hb.set 0 v0).set 1 v1).set 2 v2).set 3 v3
  exact h _ hF (grown_set (grown_set (grown_set (grown_set (grown_refl _ _) _ _) _ _) _ _) _ _) (by rw[hF.cell];rfl) (by rw[hF.cell];rfl) (by rw[hF.cell];rfl) (by rw[hF.cell];rfl)
theorem bk4 {w:World} {g:Nat} {t:TypeId} {x0 x1 x2 x3:Value} (h:Bk w g t #[x0,x1,x2,x3]):w.cell? ⟨g,0,none⟩=some x0∧w.cell? ⟨g,1,none⟩=some x1∧w.cell? ⟨g,2,none⟩=some x2∧w.cell? ⟨g,3,none⟩=some x3∧w.frozen? ⟨g,0,none⟩=false∧w.frozen? ⟨g,1,none⟩=false∧w.frozen? ⟨g,2,none⟩=false∧w.frozen? ⟨g,3,none⟩=false:=
  ⟨by rw[h.cell];rfl,by rw[h.cell];rfl,by rw[h.cell];rfl,by rw[h.cell];rfl,h.frozen 0,h.frozen 1,h.frozen 2,h.frozen 3⟩
theorem fstS_yes {F:List Lf} {i:Nat} {y:Nd} {l:List Nd} (h1:y.up=(i:Int)) (h2:y.kd=7) (h3:y.fr<y.tt):fstS F i (y::l)=tx F y.fr:=if_pos ⟨h1,h2,h3⟩
theorem fstS_no {F:List Lf} {i:Nat} {y:Nd} {l:List Nd} (h:¬(y.up=(i:Int)∧y.kd=7∧y.fr<y.tt)):fstS F i (y::l)=fstS F i l:=if_neg h
set_option maxHeartbeats 8000000 in
theorem first_m (F:List Lf) (L:List Nd) (A B:Option Addr) (c d i:Nat) (w:World) (hF:FB F) (hL:L.length≤200) (h1:Rd w w.heap.size 4 (.slice A F.length c) F.length (lfcs F)) (h2:Rd w w.heap.size 4 (.slice B L.length d) L.length (ndcs L)) (hi:i<L.length) (hN:NdB F L) :
    Calls Tryz.prog 26 #[.slice A F.length c,.slice B L.length d,.int .i64 (i:Int)] w fun e w'=>∃z:Lf,e=.returned (lfv z)∧z.tx=fstS F i (L.drop (i+1))∧Below w.heap.size w w':=by
  have u0:(i:Int)<(L.length:Int):=by omega
  have u1:(0:Int)≤(i:Int):=by omega
  obtain⟨T,hT⟩:∃T,T=fstS F i (L.drop (i+1)):=⟨_,rfl⟩
  rw[←hT]
  have HC:=Lib.hid (And.intro h1 (And.intro h2 (And.intro hF (And.intro hN hT))))
  clear h1 h2 hF hN hT
  go_enter Tryz.func26,Tryz.ntmps26
  go_upto_region 1 with fail
  refine gen1 fun W0 hb0 k0 hs0=>?_
  obtain⟨b,hbe⟩:∃b,b=w.heap.size:=⟨_,rfl⟩
  rw[←hbe] at k0 ⊢
  have H0:=Lib.hid (And.intro hb0 (And.intro k0 hbe))
  clear hb0 k0 hs0 hbe
  go_wp2_with fail
  go_loopw [7] (fun sk wr=>∃k:Nat,i+1≤k∧k≤L.length∧sk=.int .i64 (k:Int)∧T=fstS F i (L.drop k)∧Bk wr b 35 #[.int .i64 0,.string ⟨#[]⟩,.int .i64 0,.int .i64 0]∧Below w.heap.size w wr) (fun sk _=>L.length-(intOf sk).toNat)
  case atStart=>exact⟨i+1,Nat.le_refl _,by omega,by go_num,HC.out.2.2.2.2,H0.out.2.1,H0.out.1⟩
  case round=>
    obtain⟨k,hik,hk,rfl,hTk,kb,hb⟩:=hrel
    by_cases hlt:k<L.length
    ·have v1:(k:Int)<(L.length:Int):=by omega
     have v2:(0:Int)≤(k:Int):=by omega
     obtain⟨y,hy⟩:∃y,L[k]? = some y:=⟨_,List.getElem?_eq_getElem hlt⟩
     have hyb:=HC.out.2.2.2.1 k y hy
     obtain⟨g,o,rfl,hgl,hc⟩:=rd_sat ndc_len (HC.out.2.1.keep hb (Nat.le_refl _)) hy rfl
     have z0:wr.cell? ⟨g,o+k*4,none⟩=some (.int .i64 (y.kd:Int)):=hc 0 _ rfl
     have z1:wr.cell? ⟨g,o+k*4+1,none⟩=some (.int .i64 (y.fr:Int)):=hc 1 _ rfl
     have z2:wr.cell? ⟨g,o+k*4+2,none⟩=some (.int .i64 (y.tt:Int)):=hc 2 _ rfl
     have z3:wr.cell? ⟨g,o+k*4+3,none⟩=some (.int .i64 y.up):=hc 3 _ rfl
     have hdr:L.drop k=y::L.drop (k+1):=by
       rw[List.drop_eq_getElem_cons hlt]
       congr 1
       rw[List.getElem?_eq_getElem hlt] at hy
       exact Option.some.inj hy
     rw[hdr] at hTk
     obtain⟨zk,hzk⟩:∃z:Int,z=(y.kd:Int):=⟨_,rfl⟩
     obtain⟨zf,hzf⟩:∃z:Int,z=(y.fr:Int):=⟨_,rfl⟩
     obtain⟨zt,hzt⟩:∃z:Int,z=(y.tt:Int):=⟨_,rfl⟩
     obtain⟨zu,hzu⟩:∃z:Int,z=y.up:=⟨_,rfl⟩
     rw[←hzk] at z0
     rw[←hzf] at z1
     rw[←hzt] at z2
     rw[←hzu] at z3
     by_cases hyes:y.up=(i:Int)∧y.kd=7∧y.fr<y.tt
     ·obtain⟨p1,p2,p3⟩:=hyes
      have t1:(zu==(i:Int))=true:=by rw[hzu,p1];simp
      have t2:(zk==7)=true:=by rw[hzk,p2];rfl
      have t3:decide (zf<zt)=true:=decide_eq_true (by omega)
      have q1:zf<(F.length:Int):=by omega
      have q2:(0:Int)≤zf:=by omega
      obtain⟨f,hf⟩:∃f,F[y.fr]? = some f:=⟨_,List.getElem?_eq_getElem (by omega)⟩
      obtain⟨g1,o1,rfl,f0,f1,f2,f3⟩:=lf_cells (HC.out.1.keep hb (Nat.le_refl _)) hf rfl
      rw[fstS_yes p1 p2 p3,show tx F y.fr=f.tx by unfold tx;rw[hf]] at hTk
      have e1:zf.toNat=y.fr:=by rw[hzf];exact Int.toNat_natCast _
      rw[←e1] at f0 f1 f2 f3
      obtain⟨b0,b1,b2,b3,b4,b5,b6,b7⟩:=bk4 kb
      have H:=Lib.hid (And.intro hb (And.intro kb hTk))
      clear hb kb hTk hdr hc hy hyb hzk hzf hzt hzu p1 p2 p3 hf e1
      go_upto_region 4 with fail
      go_quiet (fail)
      go_wp2_with fail
      refine fin4 (Bk.drewN H.out.2.1 _) fun W1 kW gW c0 c1 c2 c3=>?_
      have hb1:Below w.heap.size w W1:=(below_drewN' H.out.1 _).grown gW H.out.1.size (fun j hj=>by injection hj with hj;rw[←hj,H0.out.2.2];exact Nat.le_refl _)
      have HW:=Lib.hid hb1
      clear kW gW hb1
      refine bodyPost_ret (v:=lfv f) (by simp[results,Tryz.results26,go_sem,c0,c1,c2,c3];try rfl) rfl ?_
      exact⟨f,rfl,H.out.2.2.symm,HW.out⟩
     ·rw[fstS_no hyes] at hTk
      have key:(zu==(i:Int))=false∨((zu==(i:Int))=true∧(zk==7)=false)∨((zu==(i:Int))=true∧(zk==7)=true∧decide (zf<zt)=false):=by
        by_cases p1:y.up=(i:Int)
        ·by_cases p2:y.kd=7
         ·exact .inr (.inr ⟨by rw[hzu,p1];simp,by rw[hzk,p2];rfl,decide_eq_false fun h=>hyes ⟨p1,p2,by omega⟩⟩)
         ·exact .inr (.inl ⟨by rw[hzu,p1];simp,beq_false_of_ne (by omega)⟩)
        ·exact .inl (beq_false_of_ne (by rw[hzu];exact p1))
      have H:=Lib.hid (And.intro hb (And.intro kb hTk))
      clear hb kb hTk hdr hc hy hyb hzk hzf hzt hzu hyes
      rcases key with t1|⟨t1,t2⟩|⟨t1,t2,t3⟩
      all_goals (
        go_upto_region 4 with fail
        go_quiet (fail)
        go_wp2_with fail
        exact⟨⟨k+1,by omega,by omega,by go_num,H.out.2.2,H.out.2.1,below_drewN' H.out.1 _⟩,by simp[intOf]<;>omega⟩)
    ·obtain rfl:k=L.length:=by omega
     rw[List.drop_eq_nil_of_le (Nat.le_refl _)] at hTk
     obtain⟨b0,b1,b2,b3,b4,b5,b6,b7⟩:=bk4 kb
     have H:=Lib.hid (And.intro hb (And.intro kb hTk))
     clear hb kb hTk
     go_wp2_with fail
     refine fin4 H.out.2.1 fun W1 kW gW c0 c1 c2 c3=>?_
     have hb1:Below w.heap.size w W1:=Below.grown H.out.1 gW H.out.1.size (fun j hj=>by injection hj with hj;rw[←hj,H0.out.2.2];exact Nat.le_refl _)
     have HW:=Lib.hid hb1
     clear kW gW hb1
     refine bodyPost_ret (v:=lfv ⟨0,[],0,0⟩) (by simp[results,Tryz.results26,go_sem,c0,c1,c2,c3];try rfl) rfl ?_
     exact⟨⟨0,[],0,0⟩,rfl,H.out.2.2.symm,HW.out⟩
end Go.Proofs.YtlbfdbinaekjoaaGreatDoor
