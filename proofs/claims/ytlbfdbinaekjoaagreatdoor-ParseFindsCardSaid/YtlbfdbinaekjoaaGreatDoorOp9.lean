/- Operators: the program's oper.Text, Of and At, and the reference's Text and At. -/
import Derived.Test.YtlbfdbinaekjoaaGreatDoorCls
import Derived.Test.YtlbfdbinaekjoaaGreatDoorLa9
namespace Go.Proofs.YtlbfdbinaekjoaaGreatDoor
open Go.RowKit
set_option linter.unusedVariables false
set_option linter.unusedSimpArgs false
set_option maxRecDepth 100000
theorem k17 {P:Nat→Prop} (h:P 1∧P 2∧P 3∧P 4∧P 5∧P 6∧P 7∧P 8∧P 9∧P 10∧P 11∧P 12∧P 13∧P 14∧P 15∧P 16∧P 17) (k:Nat) (h1:1≤k) (h2:k≤17):P k:=by
  obtain⟨a1,a2,a3,a4,a5,a6,a7,a8,a9,a10,a11,a12,a13,a14,a15,a16,a17⟩:=h
  have:k=1∨k=2∨k=3∨k=4∨k=5∨k=6∨k=7∨k=8∨k=9∨k=10∨k=11∨k=12∨k=13∨k=14∨k=15∨k=16∨k=17:=by omega
  rcases this with rfl|rfl|rfl|rfl|rfl|rfl|rfl|rfl|rfl|rfl|rfl|rfl|rfl|rfl|rfl|rfl|rfl<;>assumption
theorem optext_i (i:Int) (t:List UInt8) (w:World) (h:(i,t)∈[((1:Int),([38,38]:List UInt8)),(2,[124,124]),(3,[59,59]),(4,[60,60]),(5,[60,60,45]),(6,[62,62]),(7,[60,38]),(8,[62,38]),(9,[60,62]),(10,[62,124]),(11,[60]),(12,[62]),(13,[38]),(14,[59]),(15,[124]),(16,[40]),(17,[41])]) :
    Calls Tryz.prog 99 #[.int .i64 i] w fun e w'=>e=.returned (.string ⟨t.toArray⟩)∧w=w':=by
  simp only[List.mem_cons,List.not_mem_nil,or_false,Prod.mk.injEq] at h
  rcases h with ⟨rfl,rfl⟩|⟨rfl,rfl⟩|⟨rfl,rfl⟩|⟨rfl,rfl⟩|⟨rfl,rfl⟩|⟨rfl,rfl⟩|⟨rfl,rfl⟩|⟨rfl,rfl⟩|⟨rfl,rfl⟩|⟨rfl,rfl⟩|⟨rfl,rfl⟩|⟨rfl,rfl⟩|⟨rfl,rfl⟩|⟨rfl,rfl⟩|⟨rfl,rfl⟩|⟨rfl,rfl⟩|⟨rfl,rfl⟩
  all_goals go_enter Tryz.func99,Tryz.ntmps99
  all_goals go_wp2
  all_goals go_ret
  all_goals exact⟨rfl,rfl⟩
theorem optext_m (k:Nat) (w:World) (h1:1≤k) (h2:k≤17) :
    Calls Tryz.prog 99 #[.int .i64 (k:Int)] w fun e w'=>e=.returned (.string ⟨(opTx k).toArray⟩)∧w=w':=by
  refine optext_i _ _ w ?_
  exact k17 (P:=fun k=>((k:Int),opTx k)∈_) (by simp[opTx]) k h1 h2
theorem opFrom_le (w:List UInt8):∀m k,opFrom w m k=0∨(k≤opFrom w m k∧opFrom w m k<k+m)
  | 0,_=>.inl rfl
  | m+1,k=>by
    unfold opFrom
    split
    ·exact .inr ⟨Nat.le_refl _,by omega⟩
    ·rcases opFrom_le w m (k+1) with h|h
     ·exact .inl h
     ·exact .inr ⟨by omega,by omega⟩
theorem opOf_le (w:List UInt8):opOf w≤17:=by
  unfold opOf
  split
  ·omega
  ·rcases opFrom_le w 17 1 with h|h<;>omega
set_option maxHeartbeats 1000000 in
theorem opof_m (l:List UInt8) (w:World) (hl:l.length≤1000000) :
    Calls Tryz.prog 80 #[.string ⟨l.toArray⟩] w fun e w'=>e=.returned (.int .i64 (opOf l:Int))∧w=w':=by
  by_cases h0:l=[]
  ·subst h0
   go_enter Tryz.func80,Tryz.ntmps80
   go_wp2
   go_ret
   exact⟨rfl,rfl⟩
  ·have hb0:(l==[])=false:=by simpa using h0
   go_enter Tryz.func80,Tryz.ntmps80
   go_wp2
   go_loop [3] (fun i=>∃k:Nat,1≤k∧k≤18∧i=.int .i64 k∧opFrom l (18-k) k=opOf l) (fun i=>18-(intOf i).toNat)
   case atStart=>exact⟨1,by omega,by omega,rfl,by unfold opOf;rw[if_neg h0]⟩
   case round=>
     obtain⟨k,hk1,hk2,rfl,he⟩:=hrel
     by_cases hlt:k≤17
     ·have u1:(k:Int)≤17:=by omega
      have u2:(0:Int)≤(k:Int):=by omega
      have he2:opOf l=if opTx k=l then k else opFrom l (18-(k+1)) (k+1):=by
        rw[←he,show 18-k=(18-(k+1))+1 by omega]
        rfl
      cases hb:(opTx k==l)
      ·have HE:=Lib.hid (show opFrom l (18-(k+1)) (k+1)=opOf l by rw[he2,if_neg (by simpa using hb)])
       clear he he2
       go_wp2_with (
         (go_at_call 99
          refine(optext_m k _ hk1 hlt).mono ?_
          rintro e w2 ⟨rfl,rfl⟩))
       exact⟨⟨k+1,by omega,by omega,by go_num,HE.out⟩,by simp[intOf];omega⟩
      ·have HE:=Lib.hid (show opOf l=k by rw[he2,if_pos (by simpa using hb)])
       clear he he2
       go_wp2_with (
         (go_at_call 99
          refine(optext_m k _ hk1 hlt).mono ?_
          rintro e w2 ⟨rfl,rfl⟩))
       go_ret
       exact⟨by rw[HE.out];rfl,by first|rfl|trivial⟩
     ·have HE:=Lib.hid (show opOf l=0 by rw[←he,show 18-k=0 by omega];rfl)
      have u1:¬(k:Int)≤17:=by omega
      clear he
      go_wp2
      go_ret
      exact⟨by rw[HE.out];rfl,by first|rfl|trivial⟩
theorem opN_at (d:List UInt8) (n:Nat):opN d (n+1)=if opOf (d.take (n+1))≠0 then (opOf (d.take (n+1)),n+1) else opN d n:=rfl
set_option maxHeartbeats 1000000 in
theorem opat_m (l:List UInt8) (x:Nat) (w:World) (hl:l.length≤1000000) (hx:x<l.length) :
    Calls Tryz.prog 72 #[.string ⟨l.toArray⟩,.int .i64 (x:Int)] w fun e w'=>e=.returned (.tuple #[.int .i64 ((opAt l x).1:Int),.int .i64 ((opAt l x).2:Int)])∧w=w':=by
  have u1:(x:Int)<(l.length:Int):=by omega
  have u2:(0:Int)≤(x:Int):=by omega
  have t0:decide ((x:Int)<0)=false:=by simp
  have t1:decide ((l.length:Int)≤(x:Int))=false:=by simp;omega
  obtain⟨d,hd⟩:∃d,l[x]? = some d:=⟨_,List.getElem?_eq_getElem hx⟩
  obtain⟨hL1,hL2⟩:=List.getElem?_eq_some_iff.1 hd
  have hL:∃h:x<(ByteArray.mk l.toArray).size,(ByteArray.mk l.toArray)[x]'h=d:=⟨hL1,hL2⟩
  obtain⟨hL3,hL4⟩:=hL
  have hg:l.getD x 0=d:=by rw[List.getD_eq_getElem?_getD,hd];rfl
  have ho:opAt l x=if clsOf d≠3 then (0,0) else opN (l.drop x) (min 3 (l.length-x)):=by unfold opAt;rw[hg]
  obtain⟨o,hoo⟩:∃o,o=opAt l x:=⟨_,rfl⟩
  rw[←hoo] at ho ⊢
  have HO:=Lib.hid ho
  clear hd hL2 hg ho hoo
  by_cases hc:clsOf d=3
  ·have c1:(clsOf d != 3)=false:=by simpa using hc
   have HC:=Lib.hid (show o=opN (l.drop x) (min 3 (l.length-x)) by rw[HO.out,if_neg (fun h=>h hc)])
   have t2:min (3:Int) ((l.length:Int)-(x:Int))=((min 3 (l.length-x):Nat):Int):=by omega
   clear hc
   go_enter Tryz.func72,Tryz.ntmps72
   go_wp2
   go_step3
   go_wp2_with (
     (go_at_call 73
      refine(of_c _ _).mono ?_
      rintro e w2 ⟨rfl,rfl⟩))
   all_goals go_step3
   all_goals go_wp2
   all_goals (
     go_loop [5,4] (fun i v=>∃n:Nat,n≤3∧x+n≤l.length∧i=.int .i64 n∧v=.int .i64 0∧o=opN (l.drop x) n) (fun i _=>(intOf i).toNat)
     case atStart=>
       exact⟨min 3 (l.length-x),by omega,by omega,by congr 1<;>omega,rfl,HC.out⟩
     case round=>
       obtain⟨n,hn,hxn,rfl,rfl,he⟩:=hrel
       have HE:=Lib.hid he
       clear he
       cases n with
       | zero=>
         go_wp2
         try rw[Exit.noGoto_ret]
         go_ret2
         exact⟨by rw[HE.out];rfl,by first|rfl|trivial⟩
       | succ n=>
         have hsub:(ByteArray.mk l.toArray).extract x (x+(n+1))=⟨((l.drop x).take (n+1)).toArray⟩:=by rw[ba_extract,List.drop_take,show x+(n+1)-x=n+1 by omega]
         have hlen:((l.drop x).take (n+1)).length≤1000000:=by simp;omega
         have v1:(x:Int)+((n:Int)+1)≤(l.length:Int):=by omega
         have v2:(0:Int)<(n:Int)+1:=by omega
         have v3:(x:Int)≤(x:Int)+((n:Int)+1):=by omega
         have v4:(0:Int)≤(x:Int)+((n:Int)+1):=by omega
         have v5:((x:Int)+((n:Int)+1)).toNat=x+(n+1):=by omega
         by_cases hz:opOf ((l.drop x).take (n+1))=0
         ·have HZ:=Lib.hid (show o=opN (l.drop x) n by rw[HE.out,opN_at,if_neg (fun h=>h hz)])
          have HS:=Lib.hid (And.intro hsub (And.intro hlen hz))
          clear hsub hlen hz
          go_wp2_with (
            (go_at_call 80
             rw[HS.out.1]
             refine(opof_m _ _ HS.out.2.1).mono ?_
             rintro e w2 ⟨he,rfl⟩
             rw[HS.out.2.2] at he
             subst he))
          exact⟨⟨n,by omega,by omega,by go_num,rfl,HZ.out⟩,by first|(simp[intOf];done)|(simp[intOf];omega)⟩
         ·have HZ:=Lib.hid (show o=(opOf ((l.drop x).take (n+1)),n+1) by rw[HE.out,opN_at,if_pos hz])
          have hz2:((opOf ((l.drop x).take (n+1)):Int)!=0)=true:=by simpa using hz
          have HS:=Lib.hid (And.intro hsub hlen)
          clear hsub hlen hz
          go_wp2_with (
            (go_at_call 80
             rw[HS.out.1]
             refine(opof_m _ _ HS.out.2).mono ?_
             rintro e w2 ⟨he,rfl⟩
             subst he))
          try rw[Exit.noGoto_ret]
          go_ret2
          exact⟨by rw[HZ.out];rfl,by first|rfl|trivial⟩)
  ·have c1:(clsOf d != 3)=true:=by simpa using hc
   have HC:=Lib.hid (show o=(0,0) by rw[HO.out,if_pos hc])
   clear hc
   go_enter Tryz.func72,Tryz.ntmps72
   go_wp2
   go_step3
   go_wp2_with (
     (go_at_call 73
      refine(of_c _ _).mono ?_
      rintro e w2 ⟨rfl,rfl⟩))
   try rw[Exit.noGoto_ret]
   go_ret2
   exact⟨by rw[HC.out];rfl,rfl⟩
end Go.Proofs.YtlbfdbinaekjoaaGreatDoor
