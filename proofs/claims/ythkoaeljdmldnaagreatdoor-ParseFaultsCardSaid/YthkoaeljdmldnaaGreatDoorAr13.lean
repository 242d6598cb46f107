/- quillwortlaw13.awake, and ParseFaults: the walks. -/
import Derived.Test.YthkoaeljdmldnaaGreatDoorQf13
namespace Go.Proofs.YthkoaeljdmldnaaGreatDoor
open Go.RowKit
set_option linter.unusedVariables false
set_option linter.unusedSimpArgs false
set_option maxRecDepth 100000
def awk13:List UInt8:=[105,102,32,97,59,32,116,104,101,110]
theorem awk13_flt:fltK ((parseT (lvs3 awk13)).l.map nz) ((parseT (lvs3 awk13)).l.map nz).length=[10,11]:=by kernel_rfl
set_option maxHeartbeats 2000000 in
theorem awake13_c (w:World):Calls Tryz.prog 33 #[] w fun e w'=>e=.returned (.bool true)∧Below w.heap.size w w':=by
  obtain⟨Z,hZ⟩:∃Z,Z=(parseT (lvs3 awk13)).l.map nz:=⟨_,rfl⟩
  obtain⟨N,hN⟩:∃N,N=(parseT (lvs3 awk13)).l.length:=⟨_,rfl⟩
  have hzl:Z.length=N:=by rw[hZ,hN,List.length_map]
  have hN9:N≤100000:=by
    have h1:=parse_len (lvs3 awk13)
    have h2:=(lvs3_fb awk13 (by decide)).n
    omega
  have hf:fltK Z Z.length=[10,11]:=by rw[hZ];exact awk13_flt
  have c1:∀W,Calls Tryz.prog 40 #[.string ⟨#[105,102,32,97,59,32,116,104,101,110]⟩] W fun e w'=>∃v1 v2,e=.returned (.tuple #[v1,v2])∧w'.ownsRow W.heap.size 71 4 v2 N (nzcs Z)∧Below W.heap.size W w':=fun W=>by
    refine(pof_m awk13 W (by decide)).mono ?_
    rintro e w' ⟨v1,v2,rfl,_,h2,h3⟩
    rw[ndcs_nz,←hZ,←hN] at h2
    exact⟨v1,v2,rfl,h2,h3⟩
  have c2:∀(A:Option Addr) (c:Nat) W,Rd W W.heap.size 4 (.slice A N c) N (nzcs Z)→Calls Tryz.prog 41 #[.slice A N c] W fun e w'=>∃v,e=.returned v∧w'.ownsRow W.heap.size 3 1 v 2 (ics [10,11])∧Below W.heap.size W w':=fun A c W hR=>by
    have h:=faults_m c Z A W (by omega) (by rw[hzl];exact hR)
    rw[hf,hzl] at h
    exact h
  have c3:∀(A:Option Addr) (c:Nat) W,Rd W W.heap.size 4 (.slice A N c) N (nzcs Z)→Calls Tryz.prog 42 #[.slice A N c] W fun e w'=>e=.returned (.bool false)∧Below W.heap.size W w':=fun A c W hR=>by
    have h:=clean_m c Z A W (by omega) (by rw[hzl];exact hR)
    rw[hf,hzl] at h
    exact h
  have HC:=Lib.hid (And.intro c1 (And.intro c2 c3))
  clear c1 c2 c3 hf hzl hZ hN hN9
  go_enter Tryz.func33,Tryz.ntmps33
  go_wp2_with (first
    | (go_at_call 40
       with_reducible refine(HC.out.1 _).mono ?_
       rintro e w1 ⟨v1,v2,rfl,ho,hb⟩
       obtain⟨A1,n1,c1,rfl⟩:=own_form' ho
       obtain rfl:=own_len ho
       have H1:=Lib.hid (And.intro ho hb)
       clear ho hb)
    | (go_at_call 41
       refine(HC.out.2.1 _ _ _ (Rd.of_own H1.out.1)).mono ?_
       rintro e w2 ⟨v,rfl,ho,hb⟩
       obtain⟨A2,n2,c2,rfl⟩:=own_form' ho
       have hn2:=own_len ho
       subst hn2
       have H2:=Lib.hid (And.intro (own_below H1.out.1 hb) (H1.out.2.trans (hb.mono H1.out.2.size)))
       clear ho hb)
    | (go_at_call 42
       refine(HC.out.2.2 _ _ _ (Rd.of_own H2.out.1)).mono ?_
       rintro e w3 ⟨rfl,hb⟩
       have H3:=Lib.hid (H2.out.2.trans (hb.mono H2.out.2.size))
       clear hb)
    | fail)
  go_ret
  exact⟨rfl,H3.out⟩
end Go.Proofs.YthkoaeljdmldnaaGreatDoor
namespace Go.Proofs.YthkoaeljdmldnaaGreatDoor
open Go.RowKit
set_option linter.unusedVariables false
set_option linter.unusedSimpArgs false
set_option maxRecDepth 100000
theorem fltK_get {L:List Nz} {k:Nat} (h:fltA L k=true):∀n,k<n→(fltK L n)[(fltK L k).length]? = some k
  | 0,hk=>absurd hk (Nat.not_lt_zero _)
  | n+1,hk=>by
    rw[fltK_succ]
    by_cases he:k=n
    ·subst he
     rw[if_pos h,List.getElem?_append_right (Nat.le_refl _),Nat.sub_self]
     rfl
    ·have ih:=fltK_get h n (by omega)
     rw[List.getElem?_append_left (List.getElem?_eq_some_iff.1 ih).1]
     exact ih
set_option maxHeartbeats 4000000 in
theorem parseFaults_w (L:List Nz) (A:Option Addr) (n c:Nat) (w:World) (hrd:Rd w w.heap.size 4 (.slice A n c) n (nzcs L)) (hn:n=L.length) (hm1:n≤9223372036854775807) :
    Calls Tryz.prog 12 #[.slice A n c] w fun e w'=>e=.returned (.bool true)∧Below w.heap.size w w':=by
  subst hn
  by_cases h100:(100:Int)<(L.length:Int)
  ·go_enter Tryz.func12,Tryz.ntmps12
   go_wp2_with (
     (go_at_call 33
      refine(awake13_c _).mono ?_
      rintro e w1 ⟨rfl,hb⟩
      have H:=Lib.hid hb
      clear hb))
   go_ret
   exact⟨rfl,H.out⟩
  ·have hl:L.length≤100:=by omega
   obtain⟨M,hM⟩:∃M,M=(fltK L L.length).length:=⟨_,rfl⟩
   have hM9:M≤100:=by rw[hM];exact Nat.le_trans (fltK_len L _) hl
   obtain⟨b,hb⟩:∃b,b=(fltK L L.length==[]):=⟨_,rfl⟩
   have hb0:((M:Int)==0)=b:=by
     rw[hb,hM]
     cases fltK L L.length with
     | nil=>rfl
     | cons x r=>simp;omega
   have c2:∀W,Below w.heap.size w W→Calls Tryz.prog 41 #[.slice A L.length c] W fun e w'=>∃v,e=.returned v∧w'.ownsRow W.heap.size 3 1 v M (ics (fltK L L.length))∧Below W.heap.size W w':=fun W hW=>by
     rw[hM];exact faults_m c L A W (by omega) ((hrd.keep hW (Nat.le_refl _)).mono hW.size)
   have c3:∀W,Below w.heap.size w W→Calls Tryz.prog 42 #[.slice A L.length c] W fun e w'=>e=.returned (.bool b)∧Below W.heap.size W w':=fun W hW=>by
     rw[hb];exact clean_m c L A W (by omega) ((hrd.keep hW (Nat.le_refl _)).mono hW.size)
   have HC:=Lib.hid (And.intro c2 (And.intro c3 (And.intro hrd hM)))
   clear c2 c3 hrd hM hb
   go_enter Tryz.func12,Tryz.ntmps12
   go_wp2_with (first
     | (go_at_call 33
        refine(awake13_c _).mono ?_
        rintro e w1 ⟨rfl,hb⟩
        have H1:=Lib.hid hb
        clear hb)
     | (go_at_call 41
        with_reducible refine(HC.out.1 _ H1.out).mono ?_
        rintro e w2 ⟨v,rfl,ho,hb⟩
        obtain⟨A2,n2,c2,rfl⟩:=own_form' ho
        have hn2:=own_len ho
        subst hn2
        have H2:=Lib.hid (And.intro ho (H1.out.trans (hb.mono H1.out.size)))
        clear ho hb)
     | fail)
   go_loopw [4,5] (fun m i wr=>∃k:Nat,k≤L.length∧i=.int .i64 k∧m=.int .i64 ((fltK L k).length:Int)∧Below w2.heap.size w2 wr) (fun m i _=>L.length-(intOf i).toNat)
   case atStart=>exact⟨0,Nat.zero_le _,rfl,rfl,Below.refl _ _⟩
   case round=>
     obtain⟨k,hk,rfl,rfl,hb⟩:=hrel
     by_cases hlt:k<L.length
     ·have u1:(k:Int)<(L.length:Int):=by omega
      have u2:(0:Int)≤(k:Int):=by omega
      obtain⟨x,hx⟩:∃x,L[k]? = some x:=⟨_,List.getElem?_eq_getElem hlt⟩
      have hW:=H2.out.2.trans (hb.mono H2.out.2.size)
      obtain⟨g,o,rfl,hgl,hc⟩:=rd_sat nzc_len (HC.out.2.2.1.keep hW (Nat.le_refl _)) hx rfl
      have z0:wr.cell? ⟨g,o+k*4,none⟩=some (.int .i64 x.kd):=hc 0 _ rfl
      have hfa:fltA L k=fltB x:=by unfold fltA;rw[hx]
      have hsuc:=fltK_succ L k
      rw[hfa] at hsuc
      have hlen:=fltK_len L k
      obtain⟨m,hm⟩:∃m,m=(fltK L k).length:=⟨_,rfl⟩
      rw[←hm] at hlen ⊢
      have key:(x.kd=17)∨(x.kd≠17∧x.kd=18)∨(x.kd≠17∧x.kd≠18):=by omega
      rcases key with h17|⟨h17,h18⟩|⟨h17,h18⟩
      case' inl=>
        have t1:(x.kd != 17)=false:=by rw[h17];rfl
        have hbx:fltB x=true:=by unfold fltB;rw[h17];rfl
      case' inr.inl=>
        have t1:(x.kd != 17)=true:=by simp[h17]
        have t2:(x.kd != 18)=false:=by rw[h18];rfl
        have hbx:fltB x=true:=by unfold fltB;rw[h18];rfl
      case' inr.inr=>
        have t1:(x.kd != 17)=true:=by simp[h17]
        have t2:(x.kd != 18)=true:=by simp[h18]
        have hbx:fltB x=false:=by unfold fltB;rw[beq_false_of_ne h17,beq_false_of_ne h18];rfl
        rw[hbx,if_neg (by decide),List.append_nil] at hsuc
        have HB:=Lib.hid (And.intro hb (And.intro hsuc hm))
        clear hb hsuc hm hW hc hx hfa h17 h18 hbx
        go_wp2_with fail
        exact⟨⟨k+1,by omega,by go_num,by rw[HB.out.2.1,←HB.out.2.2],HB.out.1⟩,by simp[intOf]<;>omega⟩
      all_goals (
        rw[hbx,if_pos rfl] at hsuc
        have hget:=fltK_get (hfa.trans hbx) L.length hlt
        rw[←hm] at hget
        have hmM:m<n2:=by have:=(List.getElem?_eq_some_iff.1 hget).1;rw[←HC.out.2.2.2] at this;exact this
        have hrd2:Rd wr wr.heap.size 1 (.slice A2 n2 c2) n2 (ics (fltK L L.length)):=(Rd.of_own H2.out.1).next hb
        obtain⟨_,A',c',e1,_,_,_,hcs⟩:=hrd2
        cases e1
        obtain⟨g2,o2,rfl,_,hc2⟩:=hcs (by omega)
        have z1:wr.cell? ⟨g2,o2+m,none⟩=some (.int .i64 (k:Int)):=hc2 m _ (by unfold ics;rw[List.getElem?_map,hget];rfl)
        have u3:(m:Int)<(n2:Int):=by omega
        have u4:(0:Int)≤(m:Int):=by omega
        have hl1:(fltK L (k+1)).length=m+1:=by rw[hsuc,List.length_append,←hm];rfl
        have HB:=Lib.hid (And.intro hb hl1)
        clear hb hsuc hm hW hc hx hfa h17 hbx hget hc2 hcs hl1
        try clear h18
        go_wp2_with fail
        exact⟨⟨k+1,by omega,by go_num,by rw[HB.out.2];go_num,HB.out.1⟩,by simp[intOf]<;>omega⟩)
     ·obtain rfl:k=L.length:=by omega
      rw[←HC.out.2.2.2]
      have HB:=Lib.hid (H2.out.2.trans (hb.mono H2.out.2.size))
      clear hb
      go_wp2_with (
        (go_at_call 42
         with_reducible refine(HC.out.2.1 _ HB.out).mono ?_
         rintro e w3 ⟨rfl,hb⟩
         have H3:=Lib.hid (HB.out.trans (hb.mono HB.out.size))
         clear hb))
      go_ret
      exact⟨by simp,H3.out⟩
end Go.Proofs.YthkoaeljdmldnaaGreatDoor
namespace Go.Proofs.YthkoaeljdmldnaaGreatDoor
open Go.RowKit Go.ChangeShapes Go.WideShapes Go.Deep
set_option linter.unusedVariables false
set_option linter.unusedSimpArgs false
set_option maxRecDepth 100000
theorem stays_argm {H:Type} {enc:TypeId×Value→H} {P:Program} {t:TypeId} (hl:laidOutB P=true) (hr:P.readableRec t=true) (hrow:t<P.types.size) {W W':World} {sp':Nat→Bool} {v:Value} {d:DataW H} {ps:List MemPlace}
    (h:DataW.Trod enc P W 0 (fun _=>true) true t v d ps) (hb:Below W.heap.size W W') (hlt:∀x∈ps,x.block<W.heap.size) (hs:∀x∈ps,sp' x.block=true):DataW.Trod enc P W' 0 sp' true t v d ps:=
  WideElems.Trod_stays hl hr hrow h (fun x hx=>hb.same (hlt x hx)) hs
theorem nz_row (r:List Value) (hl:r.length=[FK.i,FK.i,FK.i,FK.i].length) (h:Qk [.i,.i,.i,.i] r):∃x:Nz,r=nzc x:=by
  obtain⟨v0,h0,a,rfl,_⟩:=h 0 .i rfl
  obtain⟨v1,h1,b,rfl,_⟩:=h 1 .i rfl
  obtain⟨v2,h2,c,rfl,_⟩:=h 2 .i rfl
  obtain⟨v3,h3,d,rfl,_⟩:=h 3 .i rfl
  match r,hl with
  | [x,y,z,u],_=>
    simp at h0 h1 h2 h3
    subst h0 h1 h2 h3
    exact⟨⟨a,b,c,d⟩,rfl⟩
theorem nz_rows (rows:List (List Value)) (h:∀r∈rows,r.length=[FK.i,FK.i,FK.i,FK.i].length∧Qk [.i,.i,.i,.i] r):∃xs:List Nz,rows.flatten=nzcs xs∧xs.length=rows.length:=rows_data nzc nz_row rows h
end Go.Proofs.YthkoaeljdmldnaaGreatDoor
