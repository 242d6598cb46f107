/- Paint: Clip and Name. -/
import Derived.Test.YtgdifhhioahakaaGreatDoorMem
import Derived.Test.YtgdifhhioahakaaGreatDoorSa9
namespace Go.Proofs.YtgdifhhioahakaaGreatDoor
open Go.RowKit
set_option linter.unusedVariables false
set_option linter.unusedSimpArgs false
set_option maxRecDepth 100000
abbrev T3:=Int×Int×Int
def t3c (x:T3):List Value:=[.int .i64 x.1,.int .i64 x.2.1,.int .i64 x.2.2]
def t3cs (L:List T3):List Value:=L.flatMap t3c
theorem t3c_len (x:T3):(t3c x).length=3:=rfl
theorem t3cs_app (L M:List T3):t3cs (L++M)=t3cs L++t3cs M:=by simp[t3cs]
theorem one_t3 (x:T3):∀u∈t3cs [x],u.oneCell'=true:=by
  intro u hu
  simp[t3cs,t3c] at hu
  rcases hu with rfl|rfl|rfl<;>rfl
def clipT (a b:Int) (r:T3):List T3:=if max r.2.1 a<min r.2.2 b then [(r.1,max r.2.1 a,min r.2.2 b)] else []
def clipL (a b:Int) (L:List T3):List T3:=L.flatMap (clipT a b)
theorem clipL_len (a b:Int):∀L:List T3,(clipL a b L).length≤L.length
  | []=>Nat.le_refl _
  | x::r=>by
    have:=clipL_len a b r
    show (clipT a b x++clipL a b r).length≤_
    rw[List.length_append,List.length_cons]
    unfold clipT
    split<;>simp<;>omega
theorem clipL_take (a b:Int) (L:List T3) {k:Nat} {x:T3} (h:L[k]? = some x):clipL a b (L.take (k+1))=clipL a b (L.take k)++clipT a b x:=by
  rw[List.take_add_one,h]
  simp[clipL]
theorem Tryz.infoRun3:(Tryz.prog.info? 31).map (fun i=>(i.zero,i.size,i.bytes))=some (some (.agg #[.int .i64 0,.int .i64 0,.int .i64 0]),3,24):=by kernel_rfl
set_option maxHeartbeats 4000000 in
theorem clip_m (L:List T3) (A:Option Addr) (c n:Nat) (a b:Int) (w:World) (hl:L.length≤100000) (hn:n=L.length) (hR:Rd w w.heap.size 3 (.slice A n c) n (t3cs L)) :
    Calls Tryz.prog 12 #[.slice A n c,.int .i64 a,.int .i64 b] w fun e w'=>∃v,e=.returned v∧w'.ownsRow w.heap.size 31 3 v (clipL a b L).length (t3cs (clipL a b L))∧Below w.heap.size w w':=by
  subst hn
  obtain⟨i0,hi0,hz0,hz1,hz2⟩:=info_parts Tryz.infoRun3
  have H0:=Lib.hid hR
  clear hR
  go_enter Tryz.func12,Tryz.ntmps12
  go_wp2
  go_loopw [6,8,11] (fun o bx i wr=>∃k:Nat,k≤L.length∧i=.int .i64 k∧wr.ownsRow w.heap.size 31 3 o (clipL a b (L.take k)).length (t3cs (clipL a b (L.take k)))∧Below w.heap.size w wr) (fun o bx i _=>L.length-(intOf i).toNat)
  case atStart=>exact⟨0,Nat.zero_le _,rfl,World.ownsRow_nil _ _ _ _,Below.refl _ _⟩
  case round=>
    obtain⟨k,hk,rfl,ho,hb⟩:=hrel
    by_cases hlt:k<L.length
    ·obtain⟨⟨x0,x1,x2⟩,hget⟩:∃t,L[k]? = some t:=⟨_,List.getElem?_eq_getElem hlt⟩
     obtain⟨g,q,rfl,_,hc⟩:=rd_sat t3c_len (H0.out.keep hb (Nat.le_refl _)) hget rfl
     have y0:wr.cell? ⟨g,q+k*3,none⟩=some (.int .i64 x0):=hc 0 _ rfl
     have y1:wr.cell? ⟨g,q+k*3+1,none⟩=some (.int .i64 x1):=hc 1 _ rfl
     have y2:wr.cell? ⟨g,q+k*3+2,none⟩=some (.int .i64 x2):=hc 2 _ rfl
     have u1:(k:Int)<(L.length:Int):=by omega
     have u2:(0:Int)≤(k:Int):=by omega
     have hlen:=clipL_len a b (L.take k)
     rw[List.length_take] at hlen
     have hsuc:=clipL_take a b L hget
     obtain⟨M,hM⟩:∃M,M=clipL a b (L.take k):=⟨_,rfl⟩
     rw[←hM] at hsuc ho hlen
     obtain⟨A2,n2,c2,rfl⟩:=own_form' ho
     obtain rfl:=own_len ho
     have hbl:=hb.size
     have HP:=Lib.hid (And.intro ho (And.intro hb hsuc))
     clear ho hb hsuc hc hget hM
     have hskip:clipT a b (x0,x1,x2)=[]→∀W,Below wr.heap.size wr W→(∃m:Nat,m≤L.length∧Value.int .i64 ((k:Int)+1)=.int .i64 m∧W.ownsRow w.heap.size 31 3 (.slice A2 M.length c2) (clipL a b (L.take m)).length (t3cs (clipL a b (L.take m)))∧Below w.heap.size w W):=fun h0 W hW=>by
       have hs:=HP.out.2.2
       rw[h0,List.append_nil] at hs
       refine⟨k+1,by omega,by go_num,?_,HP.out.2.1.trans (hW.mono hbl)⟩
       rw[hs]
       exact own_below HP.out.1 hW
     have HK:=Lib.hid hskip
     clear hskip
     by_cases h1:x1<a
     ·have e1:max x1 a=a:=by omega
      by_cases h2:b<x2
      ·have e2:min x2 b=b:=by omega
       by_cases h3:a<b
       ·have t1:decide (a<b)=true:=by simpa using h3
        have HC:=Lib.hid (show clipT a b (x0,x1,x2)=[(x0,a,b)] by unfold clipT;simp only;rw[e1,e2,if_pos h3])
        clear e1 e2 h3
        go_upto_region 6 with fail
        refine gen1 fun W hbW hkW hsW=>?_
        have hoW:=own_below HP.out.1 hbW
        have hbw:=HP.out.2.1.trans (hbW.mono hbl)
        obtain⟨b0,b1,b2⟩:W.cell? ⟨wr.heap.size,0,none⟩=some (.int .i64 x0)∧W.cell? ⟨wr.heap.size,1,none⟩=some (.int .i64 a)∧W.cell? ⟨wr.heap.size,2,none⟩=some (.int .i64 b):=⟨by rw[hkW.cell];rfl,by rw[hkW.cell];rfl,by rw[hkW.cell];rfl⟩
        have HW:=Lib.hid (And.intro hoW hbw)
        have hsz:=hbw.size
        clear hoW hbw hbW hkW hsW y0 y1 y2
        go_wp2_with (first
          | (at_builtin
             refine wpList_append_rd rfl (.tmp 30) (.tmp 32) 28 rfl w.heap.size 31 i0 _ 3 24 Tryz.underlying28 hi0 hz0 hz1 hz2 rfl (by decide) (.slice A2 M.length c2) M.length (t3cs M) rfl (HW.out.1.alloc _) (.slice (some ⟨W.heap.size,0,none⟩) 1 1) 1 (W.heap.size+1) (t3cs [(x0,a,b)]) rfl (rd_new W (t3cs [(x0,a,b)]) 31 3 1 rfl (by omega)) (one_t3 _) (by unfold maxLen;omega) (by omega) (by simp;omega) ?_
             intro v6 w6 hown6 hg6 hv6
             have hbel6:Below w.heap.size w w6:=(HW.out.2.alloc hsz _).grown hg6 (by simp;omega) (fun j hj=>(HW.out.1.lt j hj).1)
             have H6:=Lib.hid (And.intro hown6 hbel6)
             clear hown6 hg6 hv6 hbel6))
        refine⟨⟨k+1,by omega,by go_num,?_,H6.out.2⟩,by simp[intOf];omega⟩
        rw[HP.out.2.2,HC.out,t3cs_app,List.length_append]
        exact H6.out.1
       ·have t1:decide (a<b)=false:=by simpa using h3
        have HC:=Lib.hid (show clipT a b (x0,x1,x2)=[] by unfold clipT;simp only;rw[e1,e2,if_neg h3])
        clear e1 e2 h3
        go_wp2_with fail
        exact⟨HK.out HC.out _ ((Below.refl _ wr).alloc (Nat.le_refl _) _),by simp[intOf];omega⟩
      ·have e2:min x2 b=x2:=by omega
       by_cases h3:a<x2
       ·have t1:decide (a<x2)=true:=by simpa using h3
        have HC:=Lib.hid (show clipT a b (x0,x1,x2)=[(x0,a,x2)] by unfold clipT;simp only;rw[e1,e2,if_pos h3])
        clear e1 e2 h3
        go_upto_region 6 with fail
        refine gen1 fun W hbW hkW hsW=>?_
        have hoW:=own_below HP.out.1 hbW
        have hbw:=HP.out.2.1.trans (hbW.mono hbl)
        obtain⟨b0,b1,b2⟩:W.cell? ⟨wr.heap.size,0,none⟩=some (.int .i64 x0)∧W.cell? ⟨wr.heap.size,1,none⟩=some (.int .i64 a)∧W.cell? ⟨wr.heap.size,2,none⟩=some (.int .i64 x2):=⟨by rw[hkW.cell];rfl,by rw[hkW.cell];rfl,by rw[hkW.cell];rfl⟩
        have HW:=Lib.hid (And.intro hoW hbw)
        have hsz:=hbw.size
        clear hoW hbw hbW hkW hsW y0 y1 y2
        go_wp2_with (first
          | (at_builtin
             refine wpList_append_rd rfl (.tmp 30) (.tmp 32) 28 rfl w.heap.size 31 i0 _ 3 24 Tryz.underlying28 hi0 hz0 hz1 hz2 rfl (by decide) (.slice A2 M.length c2) M.length (t3cs M) rfl (HW.out.1.alloc _) (.slice (some ⟨W.heap.size,0,none⟩) 1 1) 1 (W.heap.size+1) (t3cs [(x0,a,x2)]) rfl (rd_new W (t3cs [(x0,a,x2)]) 31 3 1 rfl (by omega)) (one_t3 _) (by unfold maxLen;omega) (by omega) (by simp;omega) ?_
             intro v6 w6 hown6 hg6 hv6
             have hbel6:Below w.heap.size w w6:=(HW.out.2.alloc hsz _).grown hg6 (by simp;omega) (fun j hj=>(HW.out.1.lt j hj).1)
             have H6:=Lib.hid (And.intro hown6 hbel6)
             clear hown6 hg6 hv6 hbel6))
        refine⟨⟨k+1,by omega,by go_num,?_,H6.out.2⟩,by simp[intOf];omega⟩
        rw[HP.out.2.2,HC.out,t3cs_app,List.length_append]
        exact H6.out.1
       ·have t1:decide (a<x2)=false:=by simpa using h3
        have HC:=Lib.hid (show clipT a b (x0,x1,x2)=[] by unfold clipT;simp only;rw[e1,e2,if_neg h3])
        clear e1 e2 h3
        go_wp2_with fail
        exact⟨HK.out HC.out _ ((Below.refl _ wr).alloc (Nat.le_refl _) _),by simp[intOf];omega⟩
     ·have e1:max x1 a=x1:=by omega
      by_cases h2:b<x2
      ·have e2:min x2 b=b:=by omega
       by_cases h3:x1<b
       ·have t1:decide (x1<b)=true:=by simpa using h3
        have HC:=Lib.hid (show clipT a b (x0,x1,x2)=[(x0,x1,b)] by unfold clipT;simp only;rw[e1,e2,if_pos h3])
        clear e1 e2 h3
        go_upto_region 6 with fail
        refine gen1 fun W hbW hkW hsW=>?_
        have hoW:=own_below HP.out.1 hbW
        have hbw:=HP.out.2.1.trans (hbW.mono hbl)
        obtain⟨b0,b1,b2⟩:W.cell? ⟨wr.heap.size,0,none⟩=some (.int .i64 x0)∧W.cell? ⟨wr.heap.size,1,none⟩=some (.int .i64 x1)∧W.cell? ⟨wr.heap.size,2,none⟩=some (.int .i64 b):=⟨by rw[hkW.cell];rfl,by rw[hkW.cell];rfl,by rw[hkW.cell];rfl⟩
        have HW:=Lib.hid (And.intro hoW hbw)
        have hsz:=hbw.size
        clear hoW hbw hbW hkW hsW y0 y1 y2
        go_wp2_with (first
          | (at_builtin
             refine wpList_append_rd rfl (.tmp 30) (.tmp 32) 28 rfl w.heap.size 31 i0 _ 3 24 Tryz.underlying28 hi0 hz0 hz1 hz2 rfl (by decide) (.slice A2 M.length c2) M.length (t3cs M) rfl (HW.out.1.alloc _) (.slice (some ⟨W.heap.size,0,none⟩) 1 1) 1 (W.heap.size+1) (t3cs [(x0,x1,b)]) rfl (rd_new W (t3cs [(x0,x1,b)]) 31 3 1 rfl (by omega)) (one_t3 _) (by unfold maxLen;omega) (by omega) (by simp;omega) ?_
             intro v6 w6 hown6 hg6 hv6
             have hbel6:Below w.heap.size w w6:=(HW.out.2.alloc hsz _).grown hg6 (by simp;omega) (fun j hj=>(HW.out.1.lt j hj).1)
             have H6:=Lib.hid (And.intro hown6 hbel6)
             clear hown6 hg6 hv6 hbel6))
        refine⟨⟨k+1,by omega,by go_num,?_,H6.out.2⟩,by simp[intOf];omega⟩
        rw[HP.out.2.2,HC.out,t3cs_app,List.length_append]
        exact H6.out.1
       ·have t1:decide (x1<b)=false:=by simpa using h3
        have HC:=Lib.hid (show clipT a b (x0,x1,x2)=[] by unfold clipT;simp only;rw[e1,e2,if_neg h3])
        clear e1 e2 h3
        go_wp2_with fail
        exact⟨HK.out HC.out _ ((Below.refl _ wr).alloc (Nat.le_refl _) _),by simp[intOf];omega⟩
      ·have e2:min x2 b=x2:=by omega
       by_cases h3:x1<x2
       ·have t1:decide (x1<x2)=true:=by simpa using h3
        have HC:=Lib.hid (show clipT a b (x0,x1,x2)=[(x0,x1,x2)] by unfold clipT;simp only;rw[e1,e2,if_pos h3])
        clear e1 e2 h3
        go_upto_region 6 with fail
        refine gen1 fun W hbW hkW hsW=>?_
        have hoW:=own_below HP.out.1 hbW
        have hbw:=HP.out.2.1.trans (hbW.mono hbl)
        obtain⟨b0,b1,b2⟩:W.cell? ⟨wr.heap.size,0,none⟩=some (.int .i64 x0)∧W.cell? ⟨wr.heap.size,1,none⟩=some (.int .i64 x1)∧W.cell? ⟨wr.heap.size,2,none⟩=some (.int .i64 x2):=⟨by rw[hkW.cell];rfl,by rw[hkW.cell];rfl,by rw[hkW.cell];rfl⟩
        have HW:=Lib.hid (And.intro hoW hbw)
        have hsz:=hbw.size
        clear hoW hbw hbW hkW hsW y0 y1 y2
        go_wp2_with (first
          | (at_builtin
             refine wpList_append_rd rfl (.tmp 30) (.tmp 32) 28 rfl w.heap.size 31 i0 _ 3 24 Tryz.underlying28 hi0 hz0 hz1 hz2 rfl (by decide) (.slice A2 M.length c2) M.length (t3cs M) rfl (HW.out.1.alloc _) (.slice (some ⟨W.heap.size,0,none⟩) 1 1) 1 (W.heap.size+1) (t3cs [(x0,x1,x2)]) rfl (rd_new W (t3cs [(x0,x1,x2)]) 31 3 1 rfl (by omega)) (one_t3 _) (by unfold maxLen;omega) (by omega) (by simp;omega) ?_
             intro v6 w6 hown6 hg6 hv6
             have hbel6:Below w.heap.size w w6:=(HW.out.2.alloc hsz _).grown hg6 (by simp;omega) (fun j hj=>(HW.out.1.lt j hj).1)
             have H6:=Lib.hid (And.intro hown6 hbel6)
             clear hown6 hg6 hv6 hbel6))
        refine⟨⟨k+1,by omega,by go_num,?_,H6.out.2⟩,by simp[intOf];omega⟩
        rw[HP.out.2.2,HC.out,t3cs_app,List.length_append]
        exact H6.out.1
       ·have t1:decide (x1<x2)=false:=by simpa using h3
        have HC:=Lib.hid (show clipT a b (x0,x1,x2)=[] by unfold clipT;simp only;rw[e1,e2,if_neg h3])
        clear e1 e2 h3
        go_wp2_with fail
        exact⟨HK.out HC.out _ ((Below.refl _ wr).alloc (Nat.le_refl _) _),by simp[intOf];omega⟩
    ·obtain rfl:k=L.length:=by omega
     rw[List.take_length] at ho
     have HP:=Lib.hid (And.intro ho hb)
     clear ho hb
     go_wp2_with fail
     go_ret
     exact⟨_,rfl,HP.out⟩
end Go.Proofs.YtgdifhhioahakaaGreatDoor
