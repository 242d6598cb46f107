/- PaintClips: the walk. -/
import Derived.Test.YtgdifhhioahakaaGreatDoorAw24
import Derived.Test.YtgdifhhioahakaaGreatDoorCp24
import Derived.BigQuiet
namespace Go.Proofs.YtgdifhhioahakaaGreatDoor
open Go.RowKit
set_option linter.unusedVariables false
set_option linter.unusedSimpArgs false
set_option maxRecDepth 100000
theorem t3_row (r:List Value) (hl:r.length=[FK.i,FK.i,FK.i].length) (h:Qk [.i,.i,.i] r):∃x:T3,r=t3c x:=by
  obtain⟨u0,e0,z0,rfl,_⟩:=h 0 .i rfl
  obtain⟨u1,e1,z1,rfl,_⟩:=h 1 .i rfl
  obtain⟨u2,e2,z2,rfl,_⟩:=h 2 .i rfl
  refine⟨(z0,z1,z2),?_⟩
  match r,hl with
  | [a,b,c],_=>
    simp at e0 e1 e2
    rw[e0,e1,e2]
    rfl
theorem t3_rows (rows:List (List Value)) (h:∀r∈rows,r.length=[FK.i,FK.i,FK.i].length∧Qk [.i,.i,.i] r):∃xs:List T3,rows.flatten=t3cs xs∧xs.length=rows.length:=rows_data t3c t3_row rows h
theorem clipL_at (a b:Int) (L:List T3) {i:Nat} {x:T3} (h:L[i]? = some x) (hx:max x.2.1 a<min x.2.2 b):(clipL a b L)[(clipL a b (L.take i)).length]? = some (x.1,max x.2.1 a,min x.2.2 b):=by
  have hlt:=(List.getElem?_eq_some_iff.1 h).1
  have e:L=L.take i++x::L.drop (i+1):=by
    conv=>lhs;rw[←List.take_append_drop i L]
    congr 1
    rw[List.drop_eq_getElem_cons hlt]
    congr 1
    exact(List.getElem?_eq_some_iff.1 h).2
  have e2:clipL a b L=clipL a b (L.take i)++((x.1,max x.2.1 a,min x.2.2 b)::clipL a b (L.drop (i+1))):=by
    conv=>lhs;rw[e]
    unfold clipL
    rw[List.flatMap_append,List.flatMap_cons]
    congr 1
    unfold clipT
    rw[if_pos hx]
    rfl
  rw[e2,List.getElem?_append_right (Nat.le_refl _),Nat.sub_self]
  rfl
set_option maxHeartbeats 4000000 in
theorem paintClips_w (xs:List T3) (A:Option Addr) (n c:Nat) (a b:Int) (w:World) (hrd:Rd w w.heap.size 3 (.slice A n c) n (t3cs xs)) (hn:n=xs.length) (hm1:n≤9223372036854775807) (ha : -9223372036854775808≤a∧a≤9223372036854775807) (hb : -9223372036854775808≤b∧b≤9223372036854775807) :
    Calls Tryz.prog 5 #[.slice A n c,.int .i64 a,.int .i64 b] w fun e w'=>e=.returned (.bool true)∧Below w.heap.size w w':=by
  subst hn
  have H0:=Lib.hid hrd
  clear hrd ha hb
  by_cases h8:40<xs.length
  ·have k1:decide ((40:Int)<(xs.length:Int))=true:=by simp;omega
   go_enter Tryz.func5,Tryz.ntmps5
   go_wp2_with (
     (go_at_call 9
      refine(awake24_c _).mono ?_
      rintro e w1 ⟨rfl,hb1⟩
      have H1:=Lib.hid hb1
      clear hb1))
   go_ret
   exact⟨rfl,H1.out⟩
  have k1:decide ((40:Int)<(xs.length:Int))=false:=by simp;omega
  have hl8:xs.length≤40:=by omega
  clear h8
  go_enter Tryz.func5,Tryz.ntmps5
  go_wp2_with (first
    | (go_at_call 9
       refine(awake24_c _).mono ?_
       rintro e w1 ⟨rfl,hb1⟩
       have H1:=Lib.hid hb1
       clear hb1)
    | (go_at_call 12
       refine(clip_m xs A c xs.length a b w1 (by omega) rfl (H0.out.next H1.out)).mono ?_
       rintro e w2 ⟨v2,rfl,ho2,hb2⟩
       obtain⟨A2,n2,c2,rfl⟩:=own_form' ho2
       obtain rfl:=own_len ho2
       have hb3:=H1.out.trans (hb2.mono H1.out.size)
       have H2:=Lib.hid (And.intro ho2 (And.intro hb3 (H0.out.keep hb3 (Nat.le_refl _))))
       clear ho2 hb2 hb3))
  have hcl:=clipL_len a b xs
  go_loopw [9,8,10,11] (fun i m z0 z1 wr=>∃k:Nat,k≤xs.length∧i=.int .i64 k∧m=.int .i64 ((clipL a b (xs.take k)).length:Int)∧Below w.heap.size w wr∧wr.ownsRow w1.heap.size 31 3 (.slice A2 (clipL a b xs).length c2) (clipL a b xs).length (t3cs (clipL a b xs))) (fun i _ _ _ _=>xs.length-(intOf i).toNat)
  case atStart=>exact⟨0,by omega,rfl,rfl,H2.out.2.1,H2.out.1⟩
  case round=>
    obtain⟨k,hk,rfl,rfl,hbw,how⟩:=hrel
    have HW:=Lib.hid (And.intro hbw how)
    clear hbw how
    by_cases hlt:k<xs.length
    ·have u1:(k:Int)<(xs.length:Int):=by omega
     have u2:(0:Int)≤(k:Int):=by omega
     obtain⟨⟨x0,x1,x2⟩,hget⟩:∃t,xs[k]? = some t:=⟨_,List.getElem?_eq_getElem hlt⟩
     obtain⟨g,q,rfl,_,hc⟩:=rd_sat t3c_len (H0.out.keep HW.out.1 (Nat.le_refl _)) hget rfl
     have y0:wr.cell? ⟨g,q+k*3,none⟩=some (.int .i64 x0):=hc 0 _ rfl
     have y1:wr.cell? ⟨g,q+k*3+1,none⟩=some (.int .i64 x1):=hc 1 _ rfl
     have y2:wr.cell? ⟨g,q+k*3+2,none⟩=some (.int .i64 x2):=hc 2 _ rfl
     obtain⟨P,hP⟩:∃P,P=max x1 a:=⟨_,rfl⟩
     obtain⟨Q,hQ⟩:∃Q,Q=min x2 b:=⟨_,rfl⟩
     have hsuc:=clipL_take a b xs hget
     obtain⟨m,hm⟩:∃m,m=(clipL a b (xs.take k)).length:=⟨_,rfl⟩
     have hmk:m≤40:=by have:=clipL_len a b (xs.take k);rw[List.length_take] at this;omega
     have hT:clipT a b (x0,x1,x2)=if P<Q then [(x0,P,Q)] else []:=by unfold clipT;rw[hP,hQ]
     have hat:=fun h=>clipL_at a b xs hget h
     rw[←hm] at hat ⊢
     have hlen1:(clipL a b (xs.take (k+1))).length=if P<Q then m+1 else m:=by
       rw[hsuc,hT,List.length_append,←hm]
       split<;>simp
     have hat2:P<Q→(clipL a b xs)[m]? = some (x0,P,Q):=fun h=>by rw[hP,hQ] at h ⊢;exact hat h
     have HT:=Lib.hid (And.intro hP (And.intro hQ (And.intro hlen1 hat2)))
     clear hc hget hP hQ hsuc hm hT hat hlen1 hat2
     obtain⟨ba,tba⟩:∃ba,decide (x1<a)=ba:=⟨_,rfl⟩
     go_upto_if 34 with fail
     have HBA:=Lib.hid tba
     clear tba
     go_cut [10] (fun s wx=>s=.int .i64 P∧wr=wx)
     case first=>
       cases ba
       ·have hh:=of_decide_eq_false HBA.out
        have e:P=x1:=by rw[HT.out.1];omega
        subst e
        go_wp2_with fail
        go_meet
        case rel=>exact⟨rfl,rfl⟩
       ·have hh:=of_decide_eq_true HBA.out
        have e:P=a:=by rw[HT.out.1];omega
        subst e
        go_wp2_with fail
        go_meet
        case rel=>exact⟨rfl,rfl⟩
     case rest=>
       obtain⟨rfl,rfl⟩:=hcut
       obtain⟨bb,tbb⟩:∃bb,decide (b<x2)=bb:=⟨_,rfl⟩
       go_upto_if 43 with fail
       have HBB:=Lib.hid tbb
       clear tbb
       go_cut [11] (fun s wx=>s=.int .i64 Q∧wr=wx)
       case first=>
         cases bb
         ·have hh:=of_decide_eq_false HBB.out
          have e:Q=x2:=by rw[HT.out.2.1];omega
          subst e
          go_wp2_with fail
          go_meet
          case rel=>exact⟨rfl,rfl⟩
         ·have hh:=of_decide_eq_true HBB.out
          have e:Q=b:=by rw[HT.out.2.1];omega
          subst e
          go_wp2_with fail
          go_meet
          case rel=>exact⟨rfl,rfl⟩
       case rest=>
         obtain⟨rfl,rfl⟩:=hcut
         by_cases hPQ:P<Q
         ·have t1:decide (Q≤P)=false:=by simp;omega
          have hg2:=HT.out.2.2.2 hPQ
          have hlc:=(List.getElem?_eq_some_iff.1 hg2).1
          obtain⟨g2,o2,rfl,_,hc2⟩:=rd_sat t3c_len (Rd.of_own HW.out.2) hg2 rfl
          have z0:wr.cell? ⟨g2,o2+m*3,none⟩=some (.int .i64 x0):=hc2 0 _ rfl
          have z1:wr.cell? ⟨g2,o2+m*3+1,none⟩=some (.int .i64 P):=hc2 1 _ rfl
          have z2:wr.cell? ⟨g2,o2+m*3+2,none⟩=some (.int .i64 Q):=hc2 2 _ rfl
          have u4:(m:Int)<((clipL a b xs).length:Int):=by omega
          have u5:(0:Int)≤(m:Int):=by omega
          have t2:decide ((clipL a b xs).length≤m)=false:=by simp;omega
          have hl1:=HT.out.2.2.1
          rw[if_pos hPQ] at hl1
          have HL:=Lib.hid hl1
          clear hl1 hPQ hc2 hg2
          go_wp2_with fail
          go_quiet (fail)
          all_goals go_wp2_with fail
          all_goals exact⟨⟨k+1,by omega,by go_num,by rw[HL.out];go_num,below_drewN' HW.out.1 _,HW.out.2⟩,by simp[intOf];omega⟩
         ·have t1:decide (Q≤P)=true:=by simp;omega
          have hl1:=HT.out.2.2.1
          rw[if_neg hPQ] at hl1
          have HL:=Lib.hid hl1
          clear hl1 hPQ
          go_wp2_with fail
          exact⟨⟨k+1,by omega,by go_num,by rw[HL.out],HW.out⟩,by simp[intOf];omega⟩
    ·obtain rfl:k=xs.length:=by omega
     rw[List.take_of_length_le (Nat.le_refl _)]
     go_wp2_with fail
     go_ret
     exact⟨by first|rfl|simp,HW.out.1⟩
end Go.Proofs.YtgdifhhioahakaaGreatDoor
