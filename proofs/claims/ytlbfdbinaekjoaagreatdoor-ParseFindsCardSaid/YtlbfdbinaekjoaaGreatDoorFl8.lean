/- literal's reader: a text with its parts, and a map from places to the numbers of the parts that begin there. -/
import Derived.Test.YtlbfdbinaekjoaaGreatDoorLa9
import Derived.Test.YtlbfdbinaekjoaaGreatDoorRfy
import Derived.Maps.Own
import Derived.Maps.OwnOps
import Derived.Maps.Views
import Derived.IntWalk
import Derived.BigQuiet
import Derived.Deep.DeepCutAuto
import Derived.Deep.CutBlock
namespace Go.Proofs.YtlbfdbinaekjoaaGreatDoor
open Go.RowKit
set_option linter.unusedVariables false
set_option linter.unusedSimpArgs false
set_option maxRecDepth 100000
def pnum (L:List Prt) (x:Int):Nat→Int
  | 0=>0
  | k+1=>if (L.getD k dP).fr=x then (k:Int)+1 else pnum L x k
theorem pnum_none {L:List Prt} {x:Nat} (h:findP L x=none):∀k,k≤L.length→pnum L (x:Int) k=0
  | 0,_=>rfl
  | k+1,hk=>by
    unfold pnum
    have h1:=List.find?_eq_none.1 h L[k] (List.getElem_mem (by omega))
    have e:L.getD k dP=L[k]:=getD_some (List.getElem?_eq_getElem (by omega))
    rw[e,if_neg (by simpa using h1)]
    exact pnum_none h k (by omega)
theorem pnum_at {L:List Prt} (hr:(frs L).Pairwise (· < ·)) {i:Nat} {q:Prt} (hi:L[i]? = some q):∀k,i<k→k≤L.length→pnum L q.fr k=(i:Int)+1
  | 0,h,_=>by omega
  | k+1,h,hk=>by
    unfold pnum
    have hlt:k<L.length:=by omega
    have e:L.getD k dP=L[k]:=getD_some (List.getElem?_eq_getElem hlt)
    rw[e]
    by_cases hik:k=i
    ·subst hik
     have:L[k]=q:=by obtain⟨_,h2⟩:=List.getElem?_eq_some_iff.1 hi;exact h2
     rw[this,if_pos rfl]
    ·have h2:=(rise_lt hr (i:=k) (k:=i) (List.getElem?_eq_getElem hlt) hi).1 (by omega)
     rw[if_neg (by omega)]
     exact pnum_at hr hi k (by omega) (by omega)
theorem find_num {L:List Prt} (hr:(frs L).Pairwise (· < ·)) {x:Nat} {q:Prt} (h:findP L x=some q):∃i:Nat,L[i]? = some q∧pnum L (x:Int) L.length=(i:Int)+1:=by
  have h1:=List.mem_of_find?_eq_some h
  have h2:q.fr=x:=by have:=List.find?_some h;simpa using this
  obtain⟨i,hi⟩:=List.mem_iff_getElem?.1 h1
  refine⟨i,hi,?_⟩
  rw[←h2]
  exact pnum_at hr hi _ (List.getElem?_eq_some_iff.1 hi).1 (Nat.le_refl _)
def MP (w:World) (b:Nat) (L:List Prt) (k:Nat):Prop:=∃D:DataW Unit,w.ownsMap Tryz.prog 3 (plainElem Tryz.prog 3) b k D∧Maps.IsMap D∧∀x:Int,D.atKey (.int .i64 x) (.lit (.int .i64 0))=.lit (.int .i64 (pnum L x k))
theorem parts_bnd' (l:List UInt8) (hl:l.length≤900):∀q∈partsL l,0≤q.fr∧q.fr≤100000:=by
  intro q hq
  obtain⟨f,t,h1,h2,h3,h4,_⟩:=part_two hq
  omega
theorem wf_i64' {a:Int} (h0 : -100000≤a) (h1:a≤100000):(Lit.int .i64 a).wf=true:=WalkArith.wf_i64 (by omega)
theorem MP.made (w:World) (L:List Prt):MP (w.alloc (.map #[] 0)) w.heap.size L 0:=
  ⟨.map [],World.ownsMap_made w _ _ _,⟨[],rfl⟩,fun x=>rfl⟩
theorem MP.put {w:World} {b:Nat} {L:List Prt} {k:Nat} {q:Prt} (h:MP w b L k) (hq:L[k]? = some q) (hL:L.length≤100000) (h0:0≤q.fr) (h1:q.fr≤100000) :
    ∃w',(Instr.mapUpdate 145 (.map (some b)) (.int .i64 q.fr) (.int .i64 ((k:Int)+1))).run Tryz.prog w=.ok () w'∧MP w' b L (k+1)∧w.grownBy w' (some b):=by
  obtain⟨D,hD,hm,hat⟩:=h
  have hk:=(List.getElem?_eq_some_iff.1 hq).1
  obtain⟨w',hrun,hown,hg⟩:=hD.update (Maps.int_keyed Tryz.underlying3) Tryz.underlying145 (by unfold maxLen;omega) (Maps.keyOf_int_mk Tryz.underlying3 (wf_i64' (by omega) h1)) (plainElem_int Tryz.underlying3 (wf_i64' (a:=(k:Int)+1) (by omega) (by omega)))
  refine⟨w',hrun,⟨_,hown,hm.put _ _,fun x=>?_⟩,hg⟩
  have e:L.getD k dP=q:=getD_some hq
  unfold pnum
  rw[e]
  by_cases hx:q.fr=x
  ·subst hx
   rw[if_pos rfl,Maps.atKey_put_same hm (by trivial)]
  ·rw[if_neg hx,Maps.atKey_put_other (by intro h;injection h with _ h;exact hx h.symm)]
   exact hat x
theorem MP.look {w:World} {b:Nat} {L:List Prt} {k:Nat} (h:MP w b L k) {x:Int} (h0 : -100000≤x) (h1:x≤100000) :
    (Instr.lookup 145 (.map (some b)) (.int .i64 x) false).run Tryz.prog w=.ok (.int .i64 (pnum L x k)) w:=by
  obtain⟨D,hD,hm,hat⟩:=h
  obtain⟨c,hrun,hc,_⟩:=hD.lookup_int (Maps.int_keyed Tryz.underlying3) Tryz.underlying145 Tryz.underlying3 (by kernel_rfl) (Maps.keyOf_int_mk Tryz.underlying3 (wf_i64' h0 h1))
  rw[hat x] at hc
  injection hc with hc
  injection hc with _ hc
  rw[hrun,hc]
theorem MP.kept {w w':World} {b:Nat} {L:List Prt} {k:Nat} (h:MP w b L k) (hb:w'.heap[b]? = w.heap[b]?):MP w' b L k:=by
  obtain⟨D,⟨es,clock,h1,h2⟩,hm,hat⟩:=h
  exact⟨D,⟨es,clock,hb.trans h1,h2⟩,hm,hat⟩
theorem MP.lt {w:World} {b:Nat} {L:List Prt} {k:Nat} (h:MP w b L k):b<w.heap.size:=by
  obtain⟨D,hD,_⟩:=h
  exact hD.lt
structure Rdr (w:World) (n₀:Nat) (X:Nat→Prop) (b:Nat) (l:List UInt8) (A:Option Addr) (c m:Nat):Prop where
  hd:Bk w b 147 #[.string ⟨l.toArray⟩,.slice A (partsL l).length c,.map (some m)]
  row:w.ownsRow 0 149 5 (.slice A (partsL l).length c) (partsL l).length (pcells (partsL l))
  mp:MP w m (partsL l) (partsL l).length
  bn:b<n₀∧¬X b
  mn:m<n₀∧¬X m
  rn:∀k,(Value.slice A (partsL l).length c).ownBlock=some k→k<n₀∧¬X k
theorem Rdr.keep {w w':World} {n₀ b c m:Nat} {X:Nat→Prop} {l:List UInt8} {A:Option Addr} (h:Rdr w n₀ X b l A c m) (hk:KeepX n₀ X w w'):Rdr w' n₀ X b l A c m:=by
  refine⟨(hk.same b h.bn.1 h.bn.2).trans h.hd,⟨h.row.1,?_⟩,h.mp.kept (hk.same m h.mn.1 h.mn.2),h.bn,h.mn,h.rn⟩
  rcases h.row.2 with h2|⟨g,cap,cur,he,hg,hh,r⟩
  ·exact .inl h2
  ·have hg2:=h.rn g (by rw[he];rfl)
   exact .inr ⟨g,cap,cur,he,hg,(hk.same g hg2.1 hg2.2).trans hh,r⟩
theorem Rdr.below {w w':World} {n₀ b c m:Nat} {X:Nat→Prop} {l:List UInt8} {A:Option Addr} (h:Rdr w n₀ X b l A c m) (hb:Below w.heap.size w w') (hn:n₀≤w.heap.size):Rdr w' n₀ X b l A c m:=h.keep (KeepX.of_below hb hn)
def atV (o:Option Prt):Value:=match o with
  | none=>.tuple #[.agg #[.int .i64 0,.int .i64 0,.int .i64 0,.int .i64 0,.bool false],.bool false]
  | some q=>.tuple #[.agg #[.int .i64 q.mode,.int .i64 q.fr,.int .i64 (toP q),.int .i64 q.up,.bool q.op],.bool true]
set_option maxHeartbeats 1000000 in
theorem at_m (w:World) (n₀ b c m x:Nat) (X:Nat→Prop) (l:List UInt8) (A:Option Addr) (hl:l.length≤900) (hx:x≤1000) (h:Rdr w n₀ X b l A c m) (hn:n₀≤w.heap.size) :
    Calls Tryz.prog 136 #[.pointer (some ⟨b,0,none⟩),.int .i64 (x:Int)] w fun e w'=>e=.returned (atV (findP (partsL l) x))∧Below w.heap.size w w':=by
  have hpl:=parts_len l
  have hw1:Below w.heap.size w (w.alloc (.cells #[.int .i64 0,.int .i64 0,.int .i64 0,.int .i64 0,.bool false] 149)):=Below.alloc (Below.refl _ _) (Nat.le_refl _) _
  have h1:=h.below hw1 hn
  have y2:(w.alloc (.cells #[.int .i64 0,.int .i64 0,.int .i64 0,.int .i64 0,.bool false] 149)).cell? ⟨b,2,none⟩=some (.map (some m)):=by rw[h1.hd.cell];rfl
  have y1:(w.alloc (.cells #[.int .i64 0,.int .i64 0,.int .i64 0,.int .i64 0,.bool false] 149)).cell? ⟨b,1,none⟩=some (.slice A (partsL l).length c):=by rw[h1.hd.cell];rfl
  have hlk:=h1.mp.look (x:=(x:Int)) (by omega) (by omega)
  cases hf:findP (partsL l) x with
  | none=>
    rw[pnum_none hf _ (Nat.le_refl _)] at hlk
    have H:=Lib.hid (And.intro hf hlk)
    clear hf hlk
    go_enter Tryz.func136,Tryz.ntmps136
    go_wp2_with fail
    rw[H.out.2]
    go_wp2_with fail
    exact bodyPost_ret (v:=atV none) (by simp[results,Tryz.results136,go_sem,atV]) rfl ⟨rfl,Below.alloc (Below.refl _ _) (Nat.le_refl _) _⟩
  | some q=>
    obtain⟨i,hi,hp⟩:=find_num (parts_rise l) hf
    rw[hp] at hlk
    have hiL:=(List.getElem?_eq_some_iff.1 hi).1
    obtain⟨g,rfl⟩:=own_at h1.row (by omega)
    obtain⟨x0,x1,x2,x3,x4⟩:=pcells_at h1.row hi
    have v1:(i:Int)<((partsL l).length:Int):=by omega
    have v2:(0:Int)≤(i:Int):=by omega
    have t1:((i:Int)+1==0)=false:=by rw[beq_eq_false_iff_ne];omega
    have H:=Lib.hid (And.intro hf (And.intro hlk hp))
    clear hf hlk hp hi
    go_enter Tryz.func136,Tryz.ntmps136
    go_wp2_with fail
    rw[H.out.2.1]
    go_wp2_with fail
    exact bodyPost_ret (v:=atV (some q)) (by simp[results,Tryz.results136,go_sem,atV]) rfl ⟨rfl,Below.alloc (Below.refl _ _) (Nat.le_refl _) _⟩
theorem MP.alloc {w:World} {b:Nat} {L:List Prt} {k:Nat} (h:MP w b L k) (o:Obj):MP (w.alloc o) b L k:=h.kept (Below.heap_alloc w o b h.lt)
theorem MP.drew {w:World} {b:Nat} {L:List Prt} {k:Nat} (h:MP w b L k):MP w.drew b L k:=h
theorem MP.below {w w':World} {b:Nat} {L:List Prt} {k:Nat} (h:MP w b L k) (hb:Below w.heap.size w w'):MP w' b L k:=h.kept (hb.block b h.lt)
set_option maxHeartbeats 2000000 in
theorem read_m (w:World) (l:List UInt8) (hl:l.length≤900) :
    Calls Tryz.prog 100 #[.string ⟨l.toArray⟩] w fun e w'=>∃(b c m:Nat) (A:Option Addr),e=.returned (.pointer (some ⟨b,0,none⟩))∧Rdr w' w'.heap.size (fun k=>k<w.heap.size) b l A c m∧Below w.heap.size w w':=by
  have hpl:=parts_len l
  have hbd:=parts_bnd' l hl
  obtain⟨L,hL⟩:∃L,L=partsL l:=⟨_,rfl⟩
  rw[←hL] at hpl hbd
  have HL:=Lib.hid (And.intro hL hbd)
  clear hL hbd
  go_enter Tryz.func100,Tryz.ntmps100
  go_wp2_with (
    (go_at_call 133
     refine(of_m l _ (by omega)).mono ?_
     rintro e w2 ⟨v,rfl,ho,hb2⟩
     rw[←HL.out.1] at ho
     obtain⟨A,n,c,rfl⟩:=own_form' ho
     obtain rfl:=own_len ho
     have H:=Lib.hid (And.intro ho hb2)
     clear ho hb2))
  rw[run_makeMap]
  go_wp2_with fail
  obtain⟨W0,hW0⟩:∃W0,(w2.alloc (.map #[] 0)).alloc (.cells #[.string ⟨l.toArray⟩,.slice A L.length c,.map (some w2.heap.size)] 147)=W0:=⟨_,rfl⟩
  have hmp0:MP W0 w2.heap.size L 0:=by rw[←hW0];exact(MP.made w2 L).alloc _
  have hbk0:Bk W0 (w2.heap.size+1) 147 #[.string ⟨l.toArray⟩,.slice A L.length c,.map (some w2.heap.size)]:=by
    rw[←hW0];have:=Bk.new (w2.alloc (.map #[] 0)) 147 #[.string ⟨l.toArray⟩,.slice A L.length c,.map (some w2.heap.size)];rwa [World.size_alloc] at this
  have hb0:Below w2.heap.size w2 W0:=by rw[←hW0];exact((Below.refl _ w2).alloc (Nat.le_refl _) _).alloc (by simp) _
  have hs0:W0.heap.size=w2.heap.size+2:=by rw[←hW0];simp
  rw[hW0]
  have HW:=Lib.hid (And.intro hmp0 (And.intro hbk0 (And.intro hb0 hs0)))
  clear hW0 hmp0 hbk0 hb0 hs0
  go_loopw [17] (fun i wr=>∃k:Nat,k≤L.length∧i=.int .i64 k∧MP wr w2.heap.size L k∧Bk wr (w2.heap.size+1) 147 #[.string ⟨l.toArray⟩,.slice A L.length c,.map (some w2.heap.size)]∧Below w2.heap.size w2 wr) (fun i _=>L.length-(intOf i).toNat)
  case atStart=>exact⟨0,by omega,rfl,HW.out.1,HW.out.2.1,HW.out.2.2.1⟩
  case round=>
    obtain⟨k,hk,rfl,hmp,hbk,hb⟩:=hrel
    by_cases hlt:k<L.length
    ·have u1:(k:Int)<(L.length:Int):=by omega
     have u2:(0:Int)≤(k:Int):=by omega
     have u3:IntKind.i64.wrap ((k:Int)+1)=(k:Int)+1:=IntWalk.i64_in _ (by omega)
     obtain⟨q,hq⟩:∃q,L[k]? = some q:=⟨_,List.getElem?_eq_getElem hlt⟩
     have ho:=own_below H.out.1 hb
     obtain⟨g,rfl⟩:=own_at ho (by omega)
     obtain⟨y0,y1,y2,y3,y4⟩:=pcells_at ho hq
     obtain⟨b0,b1⟩:=HL.out.2 q (List.mem_of_getElem? hq)
     have z2:wr.cell? ⟨w2.heap.size+1,2,none⟩=some (.map (some w2.heap.size)):=by rw[hbk.cell];rfl
     have hbl:=hbk.lt
     have hnew:Below wr.heap.size wr (wr.alloc (.cells #[.int .i64 q.mode,.int .i64 q.fr,.int .i64 (toP q),.int .i64 q.up,.bool q.op] 149)):=Below.alloc (Below.refl _ _) (Nat.le_refl _) _
     obtain⟨w7,hrun7,hmp7,hg7⟩:=(hmp.below hnew).drew.put hq (by omega) b0 b1
     have z3:(wr.alloc (.cells #[.int .i64 q.mode,.int .i64 q.fr,.int .i64 (toP q),.int .i64 q.up,.bool q.op] 149)).cell? ⟨w2.heap.size+1,2,none⟩=some (.map (some w2.heap.size)):=(hnew.cell (p:=⟨w2.heap.size+1,2,none⟩) hbl).trans z2
     have HQ:=Lib.hid (And.intro hmp7 (And.intro hg7 (And.intro hrun7 (And.intro hbk (And.intro hb hnew)))))
     clear hmp7 hg7 hrun7 hbk hb hnew hmp hq ho z2
     go_wp2_with fail
     have hrun7:=HQ.out.2.2.1
     go_region
     all_goals (
       clear u3 hrun7
       go_wp2_with fail
       obtain⟨hmp7,hg7,_,hbk,hb,hnew⟩:=HQ.out
       exact⟨⟨k+1,by omega,by go_num,hmp7,((hbk.below hnew hbk.lt).drew).grown hg7 (by simp),((hb.trans (hnew.mono hb.size)).drew).grown hg7 (by have:=hb.size;simp;omega) (by intro j hj;injection hj with hj;omega)⟩,by simp[intOf];omega⟩)
    ·obtain rfl:k=L.length:=by omega
     have HQ:=Lib.hid (And.intro hmp (And.intro hbk hb))
     clear hmp hbk hb
     go_wp2_with fail
     go_ret
     obtain⟨hmp,hbk,hb⟩:=HQ.out
     obtain⟨ho,hb2⟩:=H.out
     refine⟨_,c,w2.heap.size,A,rfl,⟨?_,?_,?_,⟨hbk.lt,by have:=hb2.size;simp;omega⟩,⟨hmp.lt,by have:=hb2.size;simp;omega⟩,?_⟩,hb2.trans (hb.mono hb2.size)⟩
     ·rw[←HL.out.1];exact hbk
     ·rw[←HL.out.1];exact own_base (own_below ho hb) (Nat.zero_le _)
     ·rw[←HL.out.1];exact hmp
     ·rw[←HL.out.1]
      intro j hj
      have h1:=ho.lt j hj
      have:=hb.size
      exact⟨by omega,by simp;omega⟩
theorem Rdr.weak {w:World} {n₀ n₁ b c m:Nat} {X Y:Nat→Prop} {l:List UInt8} {A:Option Addr} (h:Rdr w n₀ X b l A c m) (hX:∀k,Y k→X k) (hn:n₀≤n₁):Rdr w n₁ Y b l A c m:=
  ⟨h.hd,h.row,h.mp,⟨by have:=h.bn.1;omega,fun hy=>h.bn.2 (hX _ hy)⟩,⟨by have:=h.mn.1;omega,fun hy=>h.mn.2 (hX _ hy)⟩,fun k hk=>⟨by have:=(h.rn k hk).1;omega,fun hy=>(h.rn k hk).2 (hX _ hy)⟩⟩
end Go.Proofs.YtlbfdbinaekjoaaGreatDoor
namespace Go.Proofs.YtlbfdbinaekjoaaGreatDoor
open Go.RowKit
set_option linter.unusedVariables false
set_option linter.unusedSimpArgs false
set_option maxRecDepth 100000
def atN (o:Option Prt) (x:Nat):Value:=match o with
  | none=>.tuple #[.agg #[.int .i64 0,.int .i64 0,.int .i64 0,.int .i64 0,.bool false],.bool false]
  | some q=>.tuple #[.agg #[.int .i64 q.mode,.int .i64 (x:Int),.int .i64 (toN q:Int),.int .i64 q.up,.bool q.op],.bool true]
theorem at_n (w:World) (n₀ b c m x:Nat) (X:Nat→Prop) (l:List UInt8) (A:Option Addr) (hl:l.length≤900) (hx:x≤1000) (h:Rdr w n₀ X b l A c m) (hn:n₀≤w.heap.size) :
    Calls Tryz.prog 136 #[.pointer (some ⟨b,0,none⟩),.int .i64 (x:Int)] w fun e w'=>e=.returned (atN (findP (partsL l) x) x)∧Below w.heap.size w w':=by
  have e:atN (findP (partsL l) x) x=atV (findP (partsL l) x):=by
    cases hf:findP (partsL l) x with
    | none=>rfl
    | some q=>
      obtain⟨_,h1,h2,_⟩:=findP_some (pl_parts l) hf
      unfold atN atV toP
      simp only[h1]
      rw[←h2]
  rw[e]
  exact at_m w n₀ b c m x X l A hl hx h hn
set_option maxHeartbeats 1000000 in
theorem lone_n (m u:Int) (x t:Nat) (o:Bool) (w:World) (hx:x≤1000) (ht:t≤1000) :
    Calls Tryz.prog 137 #[.agg #[.int .i64 m,.int .i64 (x:Int),.int .i64 (t:Int),.int .i64 u,.bool o]] w fun e w'=>e=.returned (.bool (decide (m=12∧t=x+1)))∧Below w.heap.size w w':=by
  by_cases hm:m=12
  ·have t1:(m==12)=true:=by simpa using hm
   by_cases hx1:t=x+1
   ·have t2:((t:Int)==(x:Int)+1)=true:=by rw[beq_iff_eq];omega
    rw[decide_eq_true (show m=12∧t=x+1 from ⟨hm,hx1⟩)]
    clear hm hx1
    go_enter Tryz.func137,Tryz.ntmps137
    go_wp2_with fail
    go_ret
    exact⟨rfl,Below.alloc (Below.refl _ _) (Nat.le_refl _) _⟩
   ·have t2:((t:Int)==(x:Int)+1)=false:=by rw[beq_eq_false_iff_ne];omega
    rw[decide_eq_false (show ¬(m=12∧t=x+1) from fun h=>hx1 h.2)]
    clear hm hx1
    go_enter Tryz.func137,Tryz.ntmps137
    go_wp2_with fail
    go_ret
    exact⟨rfl,Below.alloc (Below.refl _ _) (Nat.le_refl _) _⟩
  ·have t1:(m==12)=false:=by simpa using hm
   rw[decide_eq_false (show ¬(m=12∧t=x+1) from fun h=>hm h.1)]
   clear hm
   go_enter Tryz.func137,Tryz.ntmps137
   go_wp2_with fail
   go_ret
   exact⟨rfl,Below.alloc (Below.refl _ _) (Nat.le_refl _) _⟩
theorem ret_sub {l:List UInt8} {a b:Nat} {r:List UInt8} (h:sub l a b=r):Ending.returned (.string ((ByteArray.mk l.toArray).extract a b))=.returned (.string ⟨r.toArray⟩):=by rw[ba_extract];unfold sub at h;rw[h]
theorem conv_one (W:World) (g:Nat) (d:UInt8) (hg:W.heap.size=g) :
    (Go.convert 111 9 (.slice (some ⟨g,0,none⟩) 1 1)).run Tryz.prog (W.alloc (.cells #[.int .u8 (d.toNat:Int)] 5))=.ok (.string ⟨[d].toArray⟩) (W.alloc (.cells #[.int .u8 (d.toNat:Int)] 5)):=by
  subst hg
  refine run_convert_bytes_back (P:=Tryz.prog) _ 111 9 5 ⟨W.heap.size,0,none⟩ 1 [d] Tryz.underlying111 Tryz.underlying5 Tryz.underlying9 ?_
  intro j hj
  obtain rfl:j=0:=by simpa using hj
  rw[Addr.add_lit,Nat.zero_add,Bk.cell (Bk.new W _ _)]
  rfl
set_option maxHeartbeats 4000000 in
theorem escaped_n (m u:Int) (x t:Nat) (o:Bool) (w:World) (n₀ b c mm:Nat) (X:Nat→Prop) (l:List UInt8) (A:Option Addr) (hl:l.length≤900) (h:Rdr w n₀ X b l A c mm) (hn:n₀≤w.heap.size) (hx:x<t) (ht:t≤l.length) (ht2:t≤x+2) (q:Prt) (hq:toN q=t) :
    Calls Tryz.prog 159 #[.pointer (some ⟨b,0,none⟩),.agg #[.int .i64 m,.int .i64 (x:Int),.int .i64 (t:Int),.int .i64 u,.bool o]] w fun e w'=>e=.returned (.string ⟨(escT l q x).toArray⟩)∧Below w.heap.size w w':=by
  obtain⟨R,hR⟩:∃R,R=escT l q x:=⟨_,rfl⟩
  rw[←hR]
  unfold escT at hR
  rw[hq] at hR
  have hw1:Below w.heap.size w (w.alloc (.cells #[.int .i64 m,.int .i64 (x:Int),.int .i64 (t:Int),.int .i64 u,.bool o] 149)):=Below.alloc (Below.refl _ _) (Nat.le_refl _) _
  have h1:=h.below hw1 hn
  have y0:(w.alloc (.cells #[.int .i64 m,.int .i64 (x:Int),.int .i64 (t:Int),.int .i64 u,.bool o] 149)).cell? ⟨b,0,none⟩=some (.string ⟨l.toArray⟩):=by rw[h1.hd.cell];rfl
  by_cases h22:t<x+2
  ·rw[if_pos h22] at hR
   subst hR
   have t1:(t:Int)-(x:Int)<2:=by omega
   go_enter Tryz.func159,Tryz.ntmps159
   go_wp2_with fail
   go_ret
   exact⟨rfl,hw1⟩
  ·rw[if_neg h22] at hR
   have htx:t=x+2:=by omega
   have HT:=Lib.hid htx
   have t0:¬((t:Int)-(x:Int)<2):=by omega
   have t00:(x:Int)≤(t:Int):=by omega
   have t01:(t:Int)≤(l.length:Int):=by omega
   obtain⟨d,hd⟩:∃d,l[x+1]? = some d:=⟨_,List.getElem?_eq_getElem (by omega)⟩
   have hgd:l.getD (x+1) 0=d:=by rw[List.getD_eq_getElem?_getD,hd];rfl
   rw[hgd] at hR
   obtain⟨hb1,hb2⟩:=List.getElem?_eq_some_iff.1 hd
   have hL:∃h:x+1<(ByteArray.mk l.toArray).size,(ByteArray.mk l.toArray)[x+1]'h=d:=⟨hb1,hb2⟩
   obtain⟨hL1,hL2⟩:=hL
   have k1:(x:Int)+1<(l.length:Int):=by omega
   have k2:(0:Int)≤(x:Int)+1:=by omega
   have k3:((x:Int)+1).toNat=x+1:=by omega
   have k4:IntKind.i64.wrap ((x:Int)+1)=(x:Int)+1:=IntWalk.i64_in _ (by omega)
   have hR':=Lib.hid hR
   clear hR hd hgd hb2 htx
   by_cases hs:escB d=true
   ·have hc:d.toNat=36∨d.toNat=96∨d.toNat=34∨d.toNat=92:=by unfold escB at hs;simp at hs;omega
    have hR2:R=[d]:=by have:=hR'.out;rwa [if_pos hs] at this
    clear hs hR'
    subst hR2
    rcases hc with hc|hc|hc|hc
    ·have t36:((d.toNat:Int)==36)=true:=by rw[beq_iff_eq];omega
     clear hc
     go_enter Tryz.func159,Tryz.ntmps159
     go_wp2_with fail
     go_quiet (fail)
     go_wp2_with fail
     rw[conv_one _ _ d (by simp)]
     go_wp2_with fail
     go_ret
     exact⟨rfl,(below_drewN' hw1 _).alloc (by simp) _⟩
    ·have t36:((d.toNat:Int)==36)=false:=by rw[beq_eq_false_iff_ne];omega
     have t96:((d.toNat:Int)==96)=true:=by rw[beq_iff_eq];omega
     clear hc
     go_enter Tryz.func159,Tryz.ntmps159
     go_wp2_with fail
     go_quiet (fail)
     go_wp2_with fail
     rw[conv_one _ _ d (by simp)]
     go_wp2_with fail
     go_ret
     exact⟨rfl,(below_drewN' hw1 _).alloc (by simp) _⟩
    ·have t36:((d.toNat:Int)==36)=false:=by rw[beq_eq_false_iff_ne];omega
     have t96:((d.toNat:Int)==96)=false:=by rw[beq_eq_false_iff_ne];omega
     have t34:((d.toNat:Int)==34)=true:=by rw[beq_iff_eq];omega
     clear hc
     go_enter Tryz.func159,Tryz.ntmps159
     go_wp2_with fail
     go_quiet (fail)
     go_wp2_with fail
     rw[conv_one _ _ d (by simp)]
     go_wp2_with fail
     go_ret
     exact⟨rfl,(below_drewN' hw1 _).alloc (by simp) _⟩
    ·have t36:((d.toNat:Int)==36)=false:=by rw[beq_eq_false_iff_ne];omega
     have t96:((d.toNat:Int)==96)=false:=by rw[beq_eq_false_iff_ne];omega
     have t34:((d.toNat:Int)==34)=false:=by rw[beq_eq_false_iff_ne];omega
     have t92:((d.toNat:Int)==92)=true:=by rw[beq_iff_eq];omega
     clear hc
     go_enter Tryz.func159,Tryz.ntmps159
     go_wp2_with fail
     go_quiet (fail)
     go_wp2_with fail
     rw[conv_one _ _ d (by simp)]
     go_wp2_with fail
     go_ret
     exact⟨rfl,(below_drewN' hw1 _).alloc (by simp) _⟩
   ·have hc:d.toNat≠36∧d.toNat≠96∧d.toNat≠34∧d.toNat≠92:=by unfold escB at hs;simp at hs;omega
    have t36:((d.toNat:Int)==36)=false:=by rw[beq_eq_false_iff_ne];omega
    have t96:((d.toNat:Int)==96)=false:=by rw[beq_eq_false_iff_ne];omega
    have t34:((d.toNat:Int)==34)=false:=by rw[beq_eq_false_iff_ne];omega
    have t92:((d.toNat:Int)==92)=false:=by rw[beq_eq_false_iff_ne];omega
    by_cases h10:d.toNat=10
    ·have t10:((d.toNat:Int)==10)=true:=by rw[beq_iff_eq];omega
     have hR2:R=[]:=by have:=hR'.out;rwa [if_neg hs,if_pos h10] at this
     clear hs hc h10 hR'
     subst hR2
     go_enter Tryz.func159,Tryz.ntmps159
     go_wp2_with fail
     go_quiet (fail)
     go_wp2_with fail
     go_ret
     exact⟨rfl,below_drewN' hw1 _⟩
    ·have t10:((d.toNat:Int)==10)=false:=by rw[beq_eq_false_iff_ne];omega
     have hR2:R=sub l x t:=by have:=hR'.out;rwa [if_neg hs,if_neg h10] at this
     clear hs hc h10 hR'
     have HR:=Lib.hid hR2
     clear hR2
     go_enter Tryz.func159,Tryz.ntmps159
     go_wp2_with fail
     go_quiet (fail)
     go_wp2_with fail
     go_quiet (fail)
     go_wp2_with fail
     go_ret
     exact⟨ret_sub HR.out.symm,below_drewN' (below_drewN' hw1 _) _⟩
def endN (t:Nat) (o:Bool):Nat:=if o=true then t else t-1
theorem endQ_N (q:Prt):endQ q=endN (toN q) q.op:=rfl
theorem ins45 {m u:Int} {x t:Nat} {o:Bool} (hm:m=4∨m=5) (hx:x<t) (ho:o=false→x+2≤t) :
    inFr ⟨m,x,t,u,o⟩=((x+1:Nat):Int)∧inTo ⟨m,x,t,u,o⟩=((endN t o:Nat):Int):=by
  have e1:inFr ⟨m,x,t,u,o⟩=(x:Int)+1:=by
    unfold inFr
    rw[if_neg (show ¬(m=1∨m=7∨m=8) by omega),if_neg (show ¬m=9 by omega)]
  refine⟨by rw[e1];rfl,?_⟩
  unfold inTo
  rw[e1]
  unfold inTo0 toP endN
  cases o with
  | true=>
    rw[if_pos (show m=12∨m=13∨true=true from .inr (.inr rfl))]
    rw[if_neg (show ¬((t:Int)<(x:Int)+1) by omega)]
    rfl
  | false=>
    have:=ho rfl
    rw[if_neg (show ¬(m=12∨m=13∨false=true) by simp;omega),if_neg (show ¬m=9 by omega)]
    rw[if_neg (show ¬((t:Int)-1<(x:Int)+1) by omega)]
    show (t:Int)-1=((t-1:Nat):Int)
    omega
theorem inside_45 {m u:Int} {x t:Nat} {o:Bool} (w:World) (hm:m=4∨m=5) (hx:x<t) (ho:o=false→x+2≤t) (ht:t≤1000) :
    Calls Tryz.prog 158 #[.agg #[.int .i64 m,.int .i64 (x:Int),.int .i64 (t:Int),.int .i64 u,.bool o]] w fun e w'=>e=.returned (.tuple #[.int .i64 ((x+1:Nat):Int),.int .i64 ((endN t o:Nat):Int)])∧Below w.heap.size w w':=by
  have h:=inside_m ⟨m,x,t,u,o⟩ w (show (0:Int)≤(x:Int) by omega) (show (x:Int)≤100000 by omega) (show (0:Int)≤(t:Int) by omega) (show (t:Int)≤100000 by omega)
  obtain⟨e1,e2⟩:=ins45 (u:=u) hm hx ho
  rw[e1,e2] at h
  exact h
theorem endN_bd {x t:Nat} {o:Bool} (hx:x<t) (ho:o=false→x+2≤t):x+1≤endN t o∧endN t o≤t:=by
  unfold endN
  cases o with
  | true=>simp;omega
  | false=>have:=ho rfl;simp;omega
theorem five_of {w:World} {g:Nat} {t:TypeId} {a b c d e:Value} (h:Bk w g t #[a,b,c,d,e]):w.cell? ⟨g,0,none⟩=some a∧w.cell? ⟨g,1,none⟩=some b∧w.cell? ⟨g,2,none⟩=some c∧w.cell? ⟨g,3,none⟩=some d∧w.cell? ⟨g,4,none⟩=some e:=
  ⟨by rw[h.cell];rfl,by rw[h.cell];rfl,by rw[h.cell];rfl,by rw[h.cell];rfl,by rw[h.cell];rfl⟩
set_option maxHeartbeats 2000000 in
theorem quoted_s (u:Int) (x t:Nat) (o:Bool) (w:World) (n₀ b c mm:Nat) (X:Nat→Prop) (l:List UInt8) (A:Option Addr) (hl:l.length≤900) (h:Rdr w n₀ X b l A c mm) (hn:n₀≤w.heap.size) (hx:x<t) (ht:t≤l.length) (ho:o=false→x+2≤t) :
    Calls Tryz.prog 138 #[.pointer (some ⟨b,0,none⟩),.agg #[.int .i64 4,.int .i64 (x:Int),.int .i64 (t:Int),.int .i64 u,.bool o]] w fun e w'=>
      e=.returned (.tuple #[.agg #[.bool false,.bool true,.string ⟨(sub l (x+1) (endN t o)).toArray⟩],.bool true])∧Below w.heap.size w w':=by
  obtain⟨hb1,hb2⟩:=endN_bd hx ho
  obtain⟨E,hE⟩:∃E,E=endN t o:=⟨_,rfl⟩
  rw[←hE] at hb1 hb2 ⊢
  have HE:=Lib.hid (And.intro hE (And.intro ho h))
  have k1:(x:Int)+1≤(E:Int):=by omega
  have k2:(E:Int)≤(l.length:Int):=by omega
  have k3:(0:Int)≤(x:Int)+1:=by omega
  have k4:((x:Int)+1).toNat=x+1:=by omega
  clear hE ho h
  go_enter Tryz.func138,Tryz.ntmps138
  go_upto_region 1 with fail
  refine gen2 fun W hbW hk1 hk2 hs=>?_
  obtain⟨p0,p1,p2,p3,p4⟩:=five_of hk1
  have HW:=Lib.hid (And.intro hbW (And.intro hk1 (And.intro hk2 hs)))
  clear hbW hk1 hk2 hs
  go_wp2_with (
    (go_at_call 158
     refine(inside_45 _ (.inl rfl) hx HE.out.2.1 (by omega)).mono ?_
     rintro e w2 ⟨he,hb2⟩
     rw[←HE.out.1] at he
     subst he
     have hk3:=HW.out.2.2.1.below hb2 HW.out.2.2.1.lt
     have hr2:=(HE.out.2.2.below HW.out.1 hn).below hb2 (Nat.le_trans hn HW.out.1.size)
     have y0:w2.cell? ⟨b,0,none⟩=some (.string ⟨l.toArray⟩):=by rw[hr2.hd.cell];rfl
     obtain⟨_,_,_,f0,f1,f2⟩:=hk3.three
     obtain⟨c0,c1,c2,_⟩:=hk3.three
     have H2:=Lib.hid (And.intro hb2 hk3)
     clear hb2 hk3 hr2))
  refine fin3 H2.out.2 fun F hF hgF x0 x1 x2=>?_
  refine bodyPost_ret (v:=.tuple #[.agg #[.bool false,.bool true,.string ((ByteArray.mk l.toArray).extract (x+1) E)],.bool true]) (by simp[results,Tryz.results138,go_sem,x0,x1,x2]) rfl ⟨?_,?_⟩
  ·rw[ba_extract];rfl
  ·exact(HW.out.1.trans (H2.out.1.mono HW.out.1.size)).grown hgF (by have:=HW.out.1.size;have:=H2.out.1.size;omega) (by intro j hj;injection hj with hj;omega)
def neT (s:List UInt8):Bool:=decide (s≠[]∧s≠[10])
set_option maxHeartbeats 4000000 in
theorem quoted_e (u:Int) (x t:Nat) (o:Bool) (w:World) (n₀ b c mm:Nat) (X:Nat→Prop) (l:List UInt8) (A:Option Addr) (hl:l.length≤900) (h:Rdr w n₀ X b l A c mm) (hn:n₀≤w.heap.size) (hx:x<t) (ht:t≤l.length) (ht2:t≤x+2) :
    Calls Tryz.prog 138 #[.pointer (some ⟨b,0,none⟩),.agg #[.int .i64 13,.int .i64 (x:Int),.int .i64 (t:Int),.int .i64 u,.bool o]] w fun e w'=>
      e=.returned (.tuple #[.agg #[.bool false,.bool true,.string ⟨(sub l (x+1) t).toArray⟩],.bool (neT (sub l (x+1) t))])∧Below w.heap.size w w':=by
  obtain⟨S,hS⟩:∃S,S=sub l (x+1) t:=⟨_,rfl⟩
  have hx1:(ByteArray.mk l.toArray).extract (x+1) t=⟨S.toArray⟩:=by rw[ba_extract,hS];rfl
  have hSl:S.length≤1:=by rw[hS,sub_len ht];omega
  rw[←hS]
  clear hS
  have k1:(x:Int)+1≤(t:Int):=by omega
  have k2:(t:Int)≤(l.length:Int):=by omega
  have k3:(0:Int)≤(x:Int)+1:=by omega
  have k4:((x:Int)+1).toNat=x+1:=by omega
  have k5:IntKind.i64.wrap ((x:Int)+1)=(x:Int)+1:=IntWalk.i64_in _ (by omega)
  have HE:=Lib.hid h
  clear h
  have hc:S=[]∨S=[10]∨∃d,S=[d]∧d≠10:=by
    match S,hSl with
    | [],_=>exact .inl rfl
    | [d],_=>
      by_cases hd:d=10
      ·exact .inr (.inl (by rw[hd]))
      ·exact .inr (.inr ⟨d,rfl,hd⟩)
  clear hSl
  rcases hc with rfl|rfl|⟨d,rfl,hd⟩
  ·rw[show neT []=false from rfl]
   go_enter Tryz.func138,Tryz.ntmps138
   go_upto_region 1 with fail
   refine gen2 fun W hbW hk1 hk2 hs=>?_
   obtain⟨p0,p1,p2,p3,p4⟩:=five_of hk1
   have hr2:=HE.out.below hbW hn
   have y0:W.cell? ⟨b,0,none⟩=some (.string ⟨l.toArray⟩):=by rw[hr2.hd.cell];rfl
   obtain⟨_,_,_,f0,f1,f2⟩:=hk2.three
   obtain⟨c0,c1,c2,_⟩:=hk2.three
   have HW:=Lib.hid (And.intro hbW (And.intro hk1 (And.intro hk2 hs)))
   clear hbW hk1 hk2 hs hr2
   go_wp2_with fail
   go_quiet (fail)
   go_wp2_with fail
   refine fin3 (HW.out.2.2.1.drewN _) fun F hF hgF x0 x1 x2=>?_
   exact bodyPost_ret (v:=.tuple #[.agg #[.bool false,.bool true,.string ⟨#[]⟩],.bool false]) (by simp[results,Tryz.results138,go_sem,x0,x1,x2]) rfl ⟨rfl,(below_drewN' HW.out.1 _).grown hgF (by have:=HW.out.1.size;simpa using this) (by intro j hj;injection hj with hj;omega)⟩
  ·rw[show neT [10]=false from rfl]
   go_enter Tryz.func138,Tryz.ntmps138
   go_upto_region 1 with fail
   refine gen2 fun W hbW hk1 hk2 hs=>?_
   obtain⟨p0,p1,p2,p3,p4⟩:=five_of hk1
   have hr2:=HE.out.below hbW hn
   have y0:W.cell? ⟨b,0,none⟩=some (.string ⟨l.toArray⟩):=by rw[hr2.hd.cell];rfl
   obtain⟨_,_,_,f0,f1,f2⟩:=hk2.three
   obtain⟨c0,c1,c2,_⟩:=hk2.three
   have HW:=Lib.hid (And.intro hbW (And.intro hk1 (And.intro hk2 hs)))
   clear hbW hk1 hk2 hs hr2
   go_wp2_with fail
   go_quiet (fail)
   go_wp2_with fail
   refine fin3 (HW.out.2.2.1.drewN _) fun F hF hgF x0 x1 x2=>?_
   exact bodyPost_ret (v:=.tuple #[.agg #[.bool false,.bool true,.string ⟨#[10]⟩],.bool false]) (by simp[results,Tryz.results138,go_sem,x0,x1,x2]) rfl ⟨rfl,(below_drewN' HW.out.1 _).grown hgF (by have:=HW.out.1.size;simpa using this) (by intro j hj;injection hj with hj;omega)⟩
  ·rw[show neT [d]=true by unfold neT;simp[hd]]
   go_enter Tryz.func138,Tryz.ntmps138
   go_upto_region 1 with fail
   refine gen2 fun W hbW hk1 hk2 hs=>?_
   obtain⟨p0,p1,p2,p3,p4⟩:=five_of hk1
   have hr2:=HE.out.below hbW hn
   have y0:W.cell? ⟨b,0,none⟩=some (.string ⟨l.toArray⟩):=by rw[hr2.hd.cell];rfl
   obtain⟨_,_,_,f0,f1,f2⟩:=hk2.three
   obtain⟨c0,c1,c2,_⟩:=hk2.three
   have HW:=Lib.hid (And.intro hbW (And.intro hk1 (And.intro hk2 hs)))
   clear hbW hk1 hk2 hs hr2
   go_wp2_with fail
   go_quiet (fail)
   go_wp2_with fail
   refine fin3 (HW.out.2.2.1.drewN _) fun F hF hgF x0 x1 x2=>?_
   exact bodyPost_ret (v:=.tuple #[.agg #[.bool false,.bool true,.string ⟨#[d]⟩],.bool true]) (by simp[results,Tryz.results138,go_sem,x0,x1,x2,hd]) rfl ⟨rfl,(below_drewN' HW.out.1 _).grown hgF (by have:=HW.out.1.size;simpa using this) (by intro j hj;injection hj with hj;omega)⟩
end Go.Proofs.YtlbfdbinaekjoaaGreatDoor
namespace Go.Proofs.YtlbfdbinaekjoaaGreatDoor
open Go.RowKit
set_option linter.unusedVariables false
set_option linter.unusedSimpArgs false
set_option maxRecDepth 100000
def pcc (x:Pc):List Value:=[.bool x.ex,.bool x.qu,.string ⟨x.tx.toArray⟩]
end Go.Proofs.YtlbfdbinaekjoaaGreatDoor
namespace Go.Proofs.YtlbfdbinaekjoaaGreatDoor
open Go.RowKit
set_option linter.unusedVariables false
set_option linter.unusedSimpArgs false
set_option maxRecDepth 100000
attribute [local go_sem] Oper.semAt_some
theorem bytes_back {W:World} {N:Nat} {v:Value} {l:List UInt8} (h:W.ownsRow N 5 1 v l.length (bvals l)) :
    (Go.convert 111 9 v).run Tryz.prog W=.ok (.string ⟨l.toArray⟩) W:=by
  rcases h.2 with ⟨rfl,h0⟩|⟨g,cap,cur,rfl,_⟩
  ·obtain rfl:=List.eq_nil_of_length_eq_zero h0
   rw[run_convert_bytes_string W _ _ _ none 0 0 Tryz.underlying111 Tryz.underlying5 Tryz.underlying9]
   rfl
  ·refine run_convert_bytes_back (P:=Tryz.prog) W 111 9 5 ⟨g,0,none⟩ cap l Tryz.underlying111 Tryz.underlying5 Tryz.underlying9 ?_
   intro j hj
   rw[Addr.add_lit,Nat.zero_add]
   refine own_cell h j _ ?_
   rw[bvals,List.getElem?_map,List.getElem?_eq_getElem hj]
   rfl
abbrev encP (x:Pc):Array Value:=#[.agg #[.bool x.ex,.bool x.qu,.string ⟨x.tx.toArray⟩]]
def YW (l':Nat) (N:List Pc) (n₀:Nat) (Xc:Nat→Prop) (J Jx:(Nat→Prop)→List Pc→World→Prop):Prop:=
  ∀X pre x W1,J X pre W1→pre++[x]<+:N→∀m,YieldAt Fence.wide m Tryz.prog l' (encP x) W1 fun e W'=>
   (e=.returned (.bool true)∧J X (pre++[x]) W'∧KeepX n₀ Xc W1 W'∧∀k,X k→W'.heap[k]? = W1.heap[k]?)∨(e=.returned (.bool false)∧Jx X (pre++[x]) W'∧KeepX n₀ Xc W1 W'∧∀k,X k→W'.heap[k]? = W1.heap[k]?)
structure It (W:World) (X:Nat→Prop) (p y l':Nat) (buf:List UInt8) (v:Value):Prop where
  pb:Bk W p 111 #[v]
  own:W.ownsRow 0 5 1 v buf.length (bvals buf)
  yb:Bk W y 150 #[.func (.yield l') #[] #[]]
  xp:X p
  xy:X y
  xv:∀k,v.ownBlock=some k→X k
theorem It.same {W W':World} {X Y:Nat→Prop} {p y l':Nat} {buf:List UInt8} {v:Value} (h:It W X p y l' buf v) (hXY:∀k,X k→Y k) (hs:∀k,X k→W'.heap[k]? = W.heap[k]?):It W' Y p y l' buf v:=by
  refine⟨(hs p h.xp).trans h.pb,⟨h.own.1,?_⟩,(hs y h.xy).trans h.yb,hXY _ h.xp,hXY _ h.xy,fun k hk=>hXY k (h.xv k hk)⟩
  rcases h.own.2 with h2|⟨g,cap,cur,he,hg,hh,r⟩
  ·exact .inl h2
  ·exact .inr ⟨g,cap,cur,he,hg,(hs g (h.xv g (by rw[he];rfl))).trans hh,r⟩
theorem It.below {W W':World} {X Y:Nat→Prop} {p y l':Nat} {buf:List UInt8} {v:Value} (h:It W X p y l' buf v) (hXY:∀k,X k→Y k) (hb:Below W.heap.size W W'):It W' Y p y l' buf v:=by
  refine⟨h.pb.below hb h.pb.lt,own_below h.own hb,h.yb.below hb h.yb.lt,hXY _ h.xp,hXY _ h.xy,fun k hk=>hXY k (h.xv k hk)⟩
theorem It.ne {W:World} {X:Nat→Prop} {p y l':Nat} {buf:List UInt8} {v:Value} (h:It W X p y l' buf v):p≠y:=by
  intro e
  have h1:=h.pb
  have h2:=h.yb
  unfold Bk at h1 h2
  rw[e,h2] at h1
  injection h1 with h1
  injection h1 with _ h1
  exact absurd h1 (by decide)
theorem It.put {W:World} {X:Nat→Prop} {p y l':Nat} {buf buf':List UInt8} {v v':Value} (h:It W X p y l' buf v) (ho:W.ownsRow 0 5 1 v' buf'.length (bvals buf')) (hv:∀k,v'.ownBlock=some k→X k):It (W.setCell ⟨p,0,none⟩ v') X p y l' buf' v':=
  ⟨by simpa using h.pb.set 0 v',own_far ho (own_ne ho h.pb (by decide)) _,h.yb.far h.ne.symm _,h.xp,h.xy,hv⟩
structure At8 (J:(Nat→Prop)→List Pc→World→Prop) (W:World) (n₀:Nat) (Xc X:Nat→Prop) (pre:List Pc) (p y l':Nat) (buf:List UInt8) (v:Value) (b:Nat) (l:List UInt8) (A:Option Addr) (c m:Nat):Prop where
  j:J X pre W
  it:It W X p y l' buf v
  rd:Rdr W n₀ Xc b l A c m
  xn:∀k,X k→n₀≤k∧k<W.heap.size
  wn:n₀≤W.heap.size
theorem At8.below {J:(Nat→Prop)→List Pc→World→Prop} (hF:Fits J) {W W':World} {n₀:Nat} {Xc X:Nat→Prop} {pre:List Pc} {p y l':Nat} {buf:List UInt8} {v:Value} {b:Nat} {l:List UInt8} {A:Option Addr} {c m:Nat}
    (h:At8 J W n₀ Xc X pre p y l' buf v b l A c m) (hb:Below W.heap.size W W'):At8 J W' n₀ Xc (xNew X W W') pre p y l' buf v b l A c m:=
  ⟨hF _ _ _ _ h.j (XG.of_below hb),h.it.below (fun k hk=>.inl hk) hb,h.rd.below hb h.wn,fun k hk=>by
    rcases hk with hk|hk
    ·have:=h.xn k hk;have:=hb.size;omega
    ·have:=h.wn;omega,Nat.le_trans h.wn hb.size⟩
theorem At8.put {J:(Nat→Prop)→List Pc→World→Prop} (hF:Fits J) {W:World} {n₀:Nat} {Xc X:Nat→Prop} {pre:List Pc} {p y l':Nat} {buf buf':List UInt8} {v v':Value} {b:Nat} {l:List UInt8} {A:Option Addr} {c m:Nat}
    (h:At8 J W n₀ Xc X pre p y l' buf v b l A c m) (ho:W.ownsRow 0 5 1 v' buf'.length (bvals buf')) (hv:∀k,v'.ownBlock=some k→X k):At8 J (W.setCell ⟨p,0,none⟩ v') n₀ Xc (xNew X W (W.setCell ⟨p,0,none⟩ v')) pre p y l' buf' v' b l A c m:=by
  have hx:XG X W (W.setCell ⟨p,0,none⟩ v'):=(XG.refl X W).set (.inl h.it.xp) 0 v'
  have hit:=h.it.put ho hv
  refine⟨hF _ _ _ _ h.j hx,⟨hit.pb,hit.own,hit.yb,.inl hit.xp,.inl hit.xy,fun k hk=>.inl (hit.xv k hk)⟩,?_,fun k hk=>by
    have hsz:(W.setCell ⟨p,0,none⟩ v').heap.size=W.heap.size:=by simp[World.setCell]
    rcases hk with hk|hk
    ·have:=h.xn k hk;omega
    ·have:=h.wn;omega,by have:=h.wn;simpa [World.setCell] using this⟩
  exact h.rd.keep ((KeepX.refl _ _ _).set (.inl (h.xn _ h.it.xp).1) 0 v')
theorem At8.next {J J':(Nat→Prop)→List Pc→World→Prop} {W W':World} {n₀:Nat} {Xc X:Nat→Prop} {pre pre':List Pc} {p y l':Nat} {buf:List UInt8} {v:Value} {b:Nat} {l:List UInt8} {A:Option Addr} {c m:Nat}
    (h:At8 J W n₀ Xc X pre p y l' buf v b l A c m) (hj:J' X pre' W') (hk:KeepX n₀ Xc W W') (hs:∀k,X k→W'.heap[k]? = W.heap[k]?):At8 J' W' n₀ Xc X pre' p y l' buf v b l A c m:=
  ⟨hj,h.it.same (fun _ hk=>hk) hs,h.rd.keep hk,fun k hk'=>⟨(h.xn k hk').1,Nat.lt_of_lt_of_le (h.xn k hk').2 hk.size⟩,Nat.le_trans h.wn hk.size⟩
set_option maxHeartbeats 2000000 in
theorem flush_in (n l':Nat) (N:List Pc) (n₀ p y b c m:Nat) (Xc X:Nat→Prop) (l:List UInt8) (A:Option Addr) (J Jx:(Nat→Prop)→List Pc→World→Prop) (hF:Fits J) (hY:YW l' N n₀ Xc J Jx) (W:World) (pre:List Pc) (buf:List UInt8) (v:Value)
    (h:At8 J W n₀ Xc X pre p y l' buf v b l A c m) (hN:buf≠[]→pre++[⟨false,false,buf⟩]<+:N) :
    CallsIn Fence.wide n Tryz.prog 135 #[.pointer (some ⟨p,0,none⟩),.pointer (some ⟨y,0,none⟩)] W fun e W'=>
      (e=.returned (.bool true)∧∃X',(∀k,X k→X' k)∧(∀k,X k→k≠p→W'.heap[k]? = W.heap[k]?)∧KeepX n₀ Xc W W'∧At8 J W' n₀ Xc X' (pre++flP buf) p y l' [] (.slice none 0 0) b l A c m)∨(e=.returned (.bool false)∧∃X',Jx X' (pre++flP buf) W'):=by
  have hcv:=bytes_back h.it.own
  have y0:W.cell? ⟨p,0,none⟩=some v:=by rw[h.it.pb.cell];rfl
  have f0:=h.it.pb.frozen 0
  have y1:W.cell? ⟨y,0,none⟩=some (.func (.yield l') #[] #[]):=by rw[h.it.yb.cell];rfl
  have hne:¬y=p:=fun e=>h.it.ne e.symm
  have h2:=h.put hF (buf':=[]) (v':=.slice none 0 0) (World.ownsRow_nil _ _ _ _) (by intro k hk;simp[Value.ownBlock] at hk)
  obtain⟨A1,n1,c1,hv⟩:=own_form' h.it.own
  subst hv
  have H:=Lib.hid (And.intro h (And.intro h2 (And.intro hY hN)))
  clear h h2 hY hN
  cases buf with
  | nil=>
    refine callsIn_of_wp Tryz.func135 rfl trivial ?_ rfl
    simp only[Tryz.ntmps135,List.size_toArray,List.length_cons,List.length_nil,Nat.reduceAdd,Nat.reduceSub,Array.replicate_succ,Array.replicate_zero,List.push_toArray,List.append_toArray,List.nil_append,List.cons_append]
    gi_wp2_with fail
    refine⟨(fun f h=>by cases h),?_⟩
    gi_wp2_with fail
    refine bodyPost_ret (results_tmp rfl _ _ _) rfl ?_
    refine .inl ⟨rfl,xNew X W (W.setCell ⟨p,0,none⟩ (.slice none 0 0)),fun k hk=>.inl hk,fun k _ hk=>Below.heap_setCell _ _ _ k hk,(KeepX.refl _ _ _).set (.inl (H.out.1.xn _ H.out.1.it.xp).1) 0 _,?_⟩
    rw[show flP []=[] from rfl,List.append_nil]
    exact H.out.2.1
  | cons a r=>
    obtain⟨fn,tmps,assign,body,hy,hR⟩:=H.out.2.2.1 _ pre ⟨false,false,a::r⟩ _ H.out.2.1.j (H.out.2.2.2 (by simp)) (n-1)
    have hR2:=Lib.hid hR
    clear hR
    simp only[encP] at hy
    have hy2:=Lib.hid hy
    clear hy
    refine callsIn_of_wp Tryz.func135 rfl trivial ?_ rfl
    simp only[Tryz.ntmps135,List.size_toArray,List.length_cons,List.length_nil,Nat.reduceAdd,Nat.reduceSub,Array.replicate_succ,Array.replicate_zero,List.push_toArray,List.append_toArray,List.nil_append,List.cons_append]
    gi_wp2_with fail
    rw[hy2.out]
    gi_wp2_with fail
    refine⟨fun h=>by simp[Fence.wide] at h,?_⟩
    refine hR2.out.mono ?_
    rintro e W3 (⟨rfl,hJ3,hk3,hs3⟩|⟨rfl,hJx3,hk3,hs3⟩)
    ·have H3:=Lib.hid (And.intro (H.out.2.1.next hJ3 hk3 hs3) (And.intro hs3 hk3))
     clear hJ3 hk3 hs3
     gi_wp2_with fail
     refine bodyPost_ret (results_tmp rfl _ _ _) rfl ?_
     exact .inl ⟨rfl,xNew X W (W.setCell ⟨p,0,none⟩ (.slice none 0 0)),fun k hk=>.inl hk,fun k hk hkp=>(H3.out.2.1 k (.inl hk)).trans (Below.heap_setCell _ _ _ k hkp),((KeepX.refl _ _ _).set (.inl (H.out.1.xn _ H.out.1.it.xp).1) 0 _).trans H3.out.2.2,H3.out.1⟩
    ·have H3:=Lib.hid hJx3
     clear hJx3 hk3 hs3
     gi_wp2_with fail
     refine bodyPost_ret (results_tmp rfl _ _ _) rfl ?_
     exact .inr ⟨rfl,xNew X W (W.setCell ⟨p,0,none⟩ (.slice none 0 0)),H3.out⟩
end Go.Proofs.YtlbfdbinaekjoaaGreatDoor
