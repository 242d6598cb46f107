/- quillwortref12: the places of a row to which a form leads: begin, one, or, many. -/
import Derived.Test.YtlbfdbinaekjoaaGreatDoorGx13
import Derived.Test.YtlbfdbinaekjoaaGreatDoorCls
import Derived.OwnWalk
import Derived.BigQuiet
namespace Go.Proofs.YtlbfdbinaekjoaaGreatDoor
open Go.RowKit
set_option linter.unusedVariables false
set_option linter.unusedSimpArgs false
set_option maxRecDepth 100000
def bls (n:Nat) (f:Nat→Bool):List Value:=(List.range (n+1)).map fun i=>.bool (f i)
theorem bls_len (n:Nat) (f:Nat→Bool):(bls n f).length=n+1:=by simp[bls]
theorem bls_get {n i:Nat} (f:Nat→Bool) (h:i≤n):(bls n f)[i]? = some (.bool (f i)):=by simp[bls,List.getElem?_map,List.getElem?_range (show i<n+1 by omega)]
theorem bls_ext {n:Nat} {f g:Nat→Bool} (h:∀i,i≤n→f i=g i):bls n f=bls n g:=by
  refine List.map_congr_left fun i hi=>?_
  rw[h i (by have:=List.mem_range.1 hi;omega)]
theorem bls_set (n:Nat) (f:Nat→Bool) (k:Nat) (v:Bool):(bls n f).set k (.bool v)=bls n (fun i=>if i=k then v else f i):=by
  refine List.ext_getElem? fun i=>?_
  rw[List.getElem?_set]
  by_cases hi:i≤n
  ·rw[bls_get _ hi,bls_get _ hi,bls_len]
   by_cases hk:k=i
   ·subst hk;simp;omega
   ·rw[if_neg hk,if_neg (fun e=>hk e.symm)]
  ·have e1:(bls n f)[i]? = none:=List.getElem?_eq_none (by rw[bls_len];omega)
   have e2:(bls n (fun i=>if i=k then v else f i))[i]? = none:=List.getElem?_eq_none (by rw[bls_len];omega)
   rw[e1,e2,bls_len]
   by_cases hk:k=i
   ·rw[if_pos hk,if_neg (by omega)]
   ·rw[if_neg hk]
theorem bls_rep (n:Nat):List.replicate (n+1) (Value.bool false)=bls n fun _=>false:=by
  unfold bls
  rw[List.map_const']
  simp
def Lg (row:List UInt8) (f:Nat→Bool) (R:Rx):Prop:=∀i,i≤row.length→f i=true→Rm R (row.take i)
def oneF (row cs:List UInt8) (f:Nat→Bool):Nat→Bool
  | 0=>false
  | i+1=>f i&&(match row[i]? with|some c=>inL c cs|none=>false)
def manyF (row cs:List UInt8) (f:Nat→Bool):Nat→Bool
  | 0=>f 0
  | i+1=>f (i+1)||(manyF row cs f i&&(match row[i]? with|some c=>inL c cs|none=>false))
theorem inL_mem {c:UInt8} {cs:List UInt8} (h:inL c cs=true):c∈cs:=by
  unfold inL at h
  obtain⟨d,hd,e⟩:=List.any_eq_true.1 h
  have e:d.toNat=c.toNat:=by simpa using e
  rwa [←UInt8.toNat_inj.1 e]
theorem take_one {row:List UInt8} {i:Nat} {c:UInt8} (h:row[i]? = some c):row.take (i+1)=row.take i++[c]:=by
  rw[List.take_add_one,h];rfl
theorem Lg.one {row:List UInt8} {f:Nat→Bool} {R:Rx} (h:Lg row f R) (cs:List UInt8):Lg row (oneF row cs f) (.cat R (.ch cs)):=by
  intro i hi hf
  cases i with
  | zero=>cases hf
  | succ i=>
    have hf:(f i&&_)=true:=hf
    obtain⟨c,hc⟩:∃c,row[i]? = some c:=⟨_,List.getElem?_eq_getElem (by omega)⟩
    rw[hc] at hf
    obtain⟨h1,h2⟩:=(Bool.and_eq_true _ _).mp hf
    rw[take_one hc]
    exact .cat (h i (by omega) h1) (.ch (inL_mem h2))
theorem Rm.snoc {R:Rx} {cs w:List UInt8} {c:UInt8} (h:Rm (.cat R (.star (.ch cs))) w) (hc:c∈cs):Rm (.cat R (.star (.ch cs))) (w++[c]):=by
  obtain⟨u,v,rfl,h1,h2⟩:=h.cat_inv
  rw[List.append_assoc]
  refine .cat h1 ?_
  have key:∀{a:Rx} {v:List UInt8},Rm a v→a=.star (.ch cs)→Rm (.star (.ch cs)) (v++[c]):=by
    intro a v h
    induction h with
    | s0=>intro e;have:=Rm.s1 (Rm.ch hc) (Rm.s0 (a:=.ch cs));simpa using this
    | s1 h k _ ih=>intro e;cases e;rw[List.append_assoc];exact .s1 h (ih rfl)
    | _=>intro e;cases e
  exact key h2 rfl
theorem Lg.many {row:List UInt8} {f:Nat→Bool} {R:Rx} (h:Lg row f R) (cs:List UInt8):Lg row (manyF row cs f) (.cat R (.star (.ch cs))):=by
  have h0:∀i,i≤row.length→f i=true→Rm (.cat R (.star (.ch cs))) (row.take i):=fun i hi hf=>by
    have:=Rm.cat (h i hi hf) (Rm.s0 (a:=.ch cs))
    rwa [List.append_nil] at this
  intro i
  induction i with
  | zero=>intro hi hf;exact h0 0 hi hf
  | succ i ih=>
    intro hi hf
    have hf:(f (i+1)||(manyF row cs f i&&_))=true:=hf
    rcases (Bool.or_eq_true _ _).mp hf with hf|hf
    ·exact h0 _ hi hf
    ·obtain⟨c,hc⟩:∃c,row[i]? = some c:=⟨_,List.getElem?_eq_getElem (by omega)⟩
     rw[hc] at hf
     obtain⟨h1,h2⟩:=(Bool.and_eq_true _ _).mp hf
     rw[take_one hc]
     exact(ih (by omega) h1).snoc (inL_mem h2)
theorem Lg.alt {row:List UInt8} {f g:Nat→Bool} {R S:Rx} (h:Lg row f R) (k:Lg row g S):Lg row (fun i=>f i||g i) (.alt R S):=by
  intro i hi hf
  rcases (Bool.or_eq_true _ _).mp hf with hf|hf
  ·exact .altl (h i hi hf)
  ·exact .altr (k i hi hf)
theorem Lg.re {row:List UInt8} {f:Nat→Bool} {R S:Rx} (h:Lg row f R) (k:∀w,Rm R w→Rm S w):Lg row f S:=fun i hi hf=>k _ (h i hi hf)
def PLc (W:World) (row:List UInt8) (v:Value) (f:Nat→Bool):Prop:=∃A c,v=.slice A (row.length+1) c∧Rd W W.heap.size 1 v (row.length+1) (bls row.length f)
theorem PLc.next {W W':World} {row:List UInt8} {v:Value} {f:Nat→Bool} (h:PLc W row v f) (hb:Below W.heap.size W W'):PLc W' row v f:=by
  obtain⟨A,c,rfl,h1⟩:=h
  exact⟨A,c,rfl,h1.next hb⟩
def begF:Nat→Bool:=fun i=>if i=0 then true else false
def orF (f g:Nat→Bool):Nat→Bool:=fun i=>f i||g i
theorem Lg.beg (row:List UInt8):Lg row begF .eps:=by
  intro i hi hf
  by_cases h0:i=0
  ·subst h0;exact .eps
  ·have hf:(if i=0 then true else false)=true:=hf
   rw[if_neg h0] at hf;cases hf
theorem rd_b {w:World} {B n c:Nat} {A:Option Addr} {f:Nat→Bool} (h:Rd w B 1 (.slice A (n+1) c) (n+1) (bls n f)):∃g o,A=some ⟨g,o,none⟩∧g<B∧∀i,i≤n→w.cell? ⟨g,o+i,none⟩=some (.bool (f i)):=by
  obtain⟨_,A',c',e,_,_,_,h6⟩:=h
  cases e
  obtain⟨g,o,ha,hg,hc⟩:=h6 (by omega)
  exact⟨g,o,ha,hg,fun i hi=>hc i _ (bls_get f hi)⟩
theorem Tryz.infoBool13:(Tryz.prog.info? 4).map (fun i=>(i.zero,i.size,i.bytes))=some (some (.bool false),1,1):=by kernel_rfl
theorem made_b (n:Nat):(madeCells (Value.bool false).cells ((n+1)*1)).toList=bls n fun _=>false:=by
  rw[show (Value.bool false).cells=#[Value.bool false] from rfl,toList_madeCells_one,Nat.mul_one,bls_rep]
theorem mk_b (w:World) (n:Nat) (hn:n≤10000):∃W2,(Instr.makeSlice 73 (.int .i64 ((n:Int)+1)) (.int .i64 ((n:Int)+1))).run Tryz.prog w=.ok (.slice (some ⟨w.heap.size,0,none⟩) (n+1) (n+1)) W2∧W2.ownsRow w.heap.size 4 1 (.slice (some ⟨w.heap.size,0,none⟩) (n+1) (n+1)) (n+1) (bls n fun _=>false)∧Below w.heap.size w W2:=by
  obtain⟨i0,hi,hz0,hz1,hz2⟩:=info_parts Tryz.infoBool13
  obtain⟨W2,hmk,hown2,hg2⟩:=run_makeSlice_full (P:=Tryz.prog) w w.heap.size 73 4 i0 _ 1 Tryz.underlying73 hi hz0 hz1 .i64 .i64 (n+1) (by omega) (by rw[hz2];omega) (by unfold maxLen;omega) (Nat.le_refl _)
  rw[made_b] at hown2
  exact⟨W2,by exact hmk,hown2,(Below.refl _ w).grown hg2 (Nat.le_refl _) (fun k hk=>by cases hk)⟩
theorem begin_m (row:List UInt8) (w:World) (hl:row.length≤10000):Calls Tryz.prog 38 #[.string ⟨row.toArray⟩] w fun e w'=>∃v,e=.returned v∧PLc w' row v begF∧Below w.heap.size w w':=by
  obtain⟨W2,hmk,hown,hb⟩:=mk_b w row.length hl
  have hc:=own_cell hown 0 _ (bls_get _ (Nat.zero_le _))
  have hf:=own_frozen hown 0
  have hs:=own_set hown 0 (.bool true)
  have hb2:Below w.heap.size w (W2.setCell ⟨w.heap.size,0,none⟩ (.bool true)):=hb.setCell (p:=⟨w.heap.size,0,none⟩) (Nat.le_refl _) _
  have u1:(0:Int)<(row.length:Int)+1:=by omega
  have H:=Lib.hid (And.intro hs hb2)
  clear hown hb hs hb2
  go_enter Tryz.func38,Tryz.ntmps38
  go_wp2_with fail
  go_ret
  exact⟨_,rfl,⟨_,_,rfl,by have:=Rd.of_own H.out.1;rw[bls_set] at this;exact this⟩,H.out.2⟩
theorem bls_step {n k:Nat} {F:Nat→Bool} {z:Bool} (hz:z=F (k+1)):(bls n fun i=>decide (i≤k)&&F i).set (k+1) (.bool z)=bls n fun i=>decide (i≤k+1)&&F i:=by
  rw[bls_set]
  refine bls_ext fun i _=>?_
  by_cases h:i=k+1
  ·rw[if_pos h,hz,h];simp
  ·rw[if_neg h]
   by_cases h2:i≤k
   ·rw[decide_eq_true h2,decide_eq_true (show i≤k+1 by omega)]
   ·rw[decide_eq_false h2,decide_eq_false (show ¬i≤k+1 by omega)]
theorem bls_done {n:Nat} {F:Nat→Bool}:bls n (fun i=>decide (i≤n)&&F i)=bls n F:=bls_ext fun i h=>by rw[decide_eq_true h];rfl
theorem bls_stepm {n k:Nat} {F G:Nat→Bool} {z:Bool} (hz:z=F (k+1)):(bls n fun i=>if i≤k then F i else G i).set (k+1) (.bool z)=bls n fun i=>if i≤k+1 then F i else G i:=by
  rw[bls_set]
  refine bls_ext fun i _=>?_
  by_cases h:i=k+1
  ·rw[if_pos h,hz,h,if_pos (Nat.le_refl _)]
  ·rw[if_neg h]
   by_cases h2:i≤k
   ·rw[if_pos h2,if_pos (by omega)]
   ·rw[if_neg h2,if_neg (by omega)]
theorem below_put {w wr:World} {B e sz n g c:Nat} {xs:List Value} {v:Value} (hb:Below w.heap.size w wr) (ho:wr.ownsRow w.heap.size e sz (.slice (some ⟨g,0,none⟩) n c) n xs) (h:wr.grownBy (wr.setCell ⟨g,B,none⟩ v) (some g)):Below w.heap.size w (wr.setCell ⟨g,B,none⟩ v):=
  Below.grown hb h hb.size (fun k hk=>by injection hk with hk;have:=(ho.lt g rfl).1;omega)
set_option maxHeartbeats 2000000 in
theorem one_m (row cs:List UInt8) (v:Value) (f:Nat→Bool) (w:World) (hl:row.length≤10000) (hcs:cs.length≤1000) (h:PLc w row v f):Calls Tryz.prog 41 #[.string ⟨row.toArray⟩,v,.string ⟨cs.toArray⟩] w fun e w'=>∃v',e=.returned v'∧PLc w' row v' (oneF row cs f)∧Below w.heap.size w w':=by
  obtain⟨A,c,rfl,hrd⟩:=h
  obtain⟨W2,hmk,hown,hb⟩:=mk_b w row.length hl
  obtain⟨g,o,rfl,hg,hrc⟩:=rd_b hrd
  have hown':W2.ownsRow w.heap.size 4 1 (.slice (some ⟨w.heap.size,0,none⟩) (row.length+1) (row.length+1)) (row.length+1) (bls row.length fun i=>decide (i≤0)&&oneF row cs f i):=by
    rw[bls_ext (g:=fun _=>false) fun i _=>by
      cases i with
      | zero=>rfl
      | succ i=>simp]
    exact hown
  have hcell:∀W,Below w.heap.size w W→∀i,i≤row.length→W.cell? ⟨g,o+i,none⟩=some (.bool (f i)):=fun W hW i hi=>(hW.cell (p:=⟨g,o+i,none⟩) hg).trans (hrc i hi)
  have H:=Lib.hid (And.intro hown' (And.intro hb hcell))
  clear hown hown' hb hcell hrd hrc
  go_enter Tryz.func41,Tryz.ntmps41
  go_wp2_with fail
  go_loopw [8] (fun s wr=>∃k:Nat,k≤row.length∧s=.int .i64 k∧wr.ownsRow w.heap.size 4 1 (.slice (some ⟨w.heap.size,0,none⟩) (row.length+1) (row.length+1)) (row.length+1) (bls row.length fun i=>decide (i≤k)&&oneF row cs f i)∧Below w.heap.size w wr) (fun s _=>row.length-(intOf s).toNat)
  case atStart=>exact⟨0,Nat.zero_le _,rfl,H.out.1,H.out.2.1⟩
  case round=>
    obtain⟨k,hk,rfl,ho,hb⟩:=hrel
    by_cases hlt:k<row.length
    ·have u1:(k:Int)<(row.length:Int):=by omega
     have u2:(0:Int)≤(k:Int):=by omega
     have u3:(k:Int)<(row.length:Int)+1:=by omega
     have u4:(k:Int)+1<(row.length:Int)+1:=by omega
     have u5:(0:Int)≤(k:Int)+1:=by omega
     have x1:=H.out.2.2 wr hb k (by omega)
     have x2:=own_cell ho (k+1) _ (bls_get _ (by omega))
     have x3:=own_frozen ho (k+1)
     obtain⟨b,hbb⟩:∃b,b=f k:=⟨_,rfl⟩
     obtain⟨q,hq⟩:∃q,q=inL row[k] cs:=⟨_,rfl⟩
     have hz2:oneF row cs f (k+1)=(b&&q):=by
       rw[hbb,hq]
       show (f k&&(match row[k]? with|some c=>inL c cs|none=>false))=_
       rw[List.getElem?_eq_getElem hlt]
     have c1:∀W,Calls Tryz.prog 45 #[.int .u8 ((row[k]).toNat:Int),.string ⟨cs.toArray⟩] W fun e w'=>e=.returned (.bool q)∧W=w':=fun W=>by rw[hq];exact in_c _ _ W (by omega)
     rw[←hbb] at x1
     have HK:=Lib.hid (And.intro hb (And.intro ho (And.intro c1 hz2)))
     clear hb ho c1 hbb hq hz2
     cases b<;>cases q
     all_goals (
       go_wp2_with (
         go_at_call 45
         refine(HK.out.2.2.1 _).mono ?_
         rintro e w9 ⟨rfl,rfl⟩)
       refine⟨⟨k+1,by omega,by go_num,?_,?_⟩,by simp[intOf]<;>omega⟩
       ·have hs:=(HK.out.2.1.stored (k+1) (.bool (oneF row cs f (k+1)))).1
        rw[bls_step rfl,HK.out.2.2.2] at hs
        exact hs
       ·exact below_put HK.out.1 HK.out.2.1 (HK.out.2.1.stored (k+1) _).2)
    ·obtain rfl:k=row.length:=by omega
     rw[bls_done] at ho
     have HK:=Lib.hid (And.intro hb ho)
     clear hb ho
     go_wp2_with fail
     go_ret
     exact⟨_,rfl,⟨_,_,rfl,Rd.of_own HK.out.2⟩,HK.out.1⟩
set_option maxHeartbeats 2000000 in
theorem or_o (n c d:Nat) (A B:Option Addr) (f g:Nat→Bool) (w:World) (hn:n≤10000) (h1:Rd w w.heap.size 1 (.slice A (n+1) c) (n+1) (bls n f)) (h2:Rd w w.heap.size 1 (.slice B (n+1) d) (n+1) (bls n g)) :
    Calls Tryz.prog 40 #[.slice A (n+1) c,.slice B (n+1) d] w fun e w'=>∃k c',e=.returned (.slice (some ⟨k,0,none⟩) (n+1) c')∧w'.ownsRow w.heap.size 4 1 (.slice (some ⟨k,0,none⟩) (n+1) c') (n+1) (bls n fun i=>f i||g i)∧Below w.heap.size w w':=by
  obtain⟨W2,hmk,hown,hb⟩:=mk_b w n hn
  obtain⟨g1,o1,rfl,hg1,hr1⟩:=rd_b h1
  obtain⟨g2,o2,rfl,hg2,hr2⟩:=rd_b h2
  have hown':W2.ownsRow w.heap.size 4 1 (.slice (some ⟨w.heap.size,0,none⟩) (n+1) (n+1)) (n+1) (bls n fun i=>decide (i<0)&&(f i||g i)):=by
    rw[bls_ext (g:=fun _=>false) fun i _=>by simp]
    exact hown
  have hc1:∀W,Below w.heap.size w W→∀i,i≤n→W.cell? ⟨g1,o1+i,none⟩=some (.bool (f i)):=fun W hW i hi=>(hW.cell (p:=⟨g1,o1+i,none⟩) hg1).trans (hr1 i hi)
  have hc2:∀W,Below w.heap.size w W→∀i,i≤n→W.cell? ⟨g2,o2+i,none⟩=some (.bool (g i)):=fun W hW i hi=>(hW.cell (p:=⟨g2,o2+i,none⟩) hg2).trans (hr2 i hi)
  have H:=Lib.hid (And.intro hown' (And.intro hb (And.intro hc1 hc2)))
  clear hown hown' hb hc1 hc2 hr1 hr2 h1 h2
  go_enter Tryz.func40,Tryz.ntmps40
  go_wp2_with fail
  go_loopw [6] (fun s wr=>∃k:Nat,k≤n+1∧s=.int .i64 k∧wr.ownsRow w.heap.size 4 1 (.slice (some ⟨w.heap.size,0,none⟩) (n+1) (n+1)) (n+1) (bls n fun i=>decide (i<k)&&(f i||g i))∧Below w.heap.size w wr) (fun s _=>n+1-(intOf s).toNat)
  case atStart=>exact⟨0,Nat.zero_le _,rfl,H.out.1,H.out.2.1⟩
  case round=>
    obtain⟨k,hk,rfl,ho,hb⟩:=hrel
    by_cases hlt:k<n+1
    ·have u1:(k:Int)<(n:Int)+1:=by omega
     have u2:(0:Int)≤(k:Int):=by omega
     have x1:=H.out.2.2.1 wr hb k (by omega)
     have x4:=H.out.2.2.2 wr hb k (by omega)
     have x2:=own_cell ho k _ (bls_get _ (by omega))
     have x3:=own_frozen ho k
     obtain⟨b,hbb⟩:∃b,b=f k:=⟨_,rfl⟩
     obtain⟨q,hq⟩:∃q,q=g k:=⟨_,rfl⟩
     have hz2:(f k||g k)=(b||q):=by rw[hbb,hq]
     rw[←hbb] at x1
     rw[←hq] at x4
     have HK:=Lib.hid (And.intro hb (And.intro ho hz2))
     clear hb ho hbb hq hz2
     cases b<;>cases q
     all_goals (
       go_wp2_with fail
       refine⟨⟨k+1,by omega,by go_num,?_,?_⟩,by simp[intOf]<;>omega⟩
       ·have hs:=(HK.out.2.1.stored k (.bool (f k||g k))).1
        rw[bls_set,bls_ext (g:=fun i=>decide (i<k+1)&&(f i||g i)) fun i _=>by
          by_cases h:i=k
          ·subst h;simp
          ·rw[if_neg h,show decide (i<k+1)=decide (i<k) from decide_eq_decide.2 (by omega)],HK.out.2.2] at hs
        exact hs
       ·exact below_put HK.out.1 HK.out.2.1 (HK.out.2.1.stored k _).2)
    ·obtain rfl:k=n+1:=by omega
     rw[bls_ext (g:=fun i=>f i||g i) fun i hi=>by rw[decide_eq_true (show i<n+1 by omega)];rfl] at ho
     have HK:=Lib.hid (And.intro hb ho)
     clear hb ho
     go_wp2_with fail
     go_ret
     exact⟨_,_,rfl,HK.out.2,HK.out.1⟩
theorem or_m (row:List UInt8) (v u:Value) (f g:Nat→Bool) (w:World) (hl:row.length≤10000) (h:PLc w row v f) (k:PLc w row u g):Calls Tryz.prog 40 #[v,u] w fun e w'=>∃v',e=.returned v'∧PLc w' row v' (orF f g)∧Below w.heap.size w w':=by
  obtain⟨A,c,rfl,h1⟩:=h
  obtain⟨B,d,rfl,k1⟩:=k
  refine(or_o row.length c d A B f g w hl h1 k1).mono ?_
  rintro e w' ⟨x,c',rfl,ho,hb⟩
  exact⟨_,rfl,⟨_,_,rfl,Rd.of_own ho⟩,hb⟩
set_option maxHeartbeats 2000000 in
theorem many_m (row cs:List UInt8) (v:Value) (f:Nat→Bool) (w:World) (hl:row.length≤10000) (hcs:cs.length≤1000) (h:PLc w row v f):Calls Tryz.prog 39 #[.string ⟨row.toArray⟩,v,.string ⟨cs.toArray⟩] w fun e w'=>∃v',e=.returned v'∧PLc w' row v' (manyF row cs f)∧Below w.heap.size w w':=by
  obtain⟨A,c,rfl,hrd⟩:=h
  have cO:=or_o row.length c c A A f f w hl hrd hrd
  simp only[Bool.or_self] at cO
  have H:=Lib.hid cO
  clear cO hrd
  go_enter Tryz.func39,Tryz.ntmps39
  go_wp2_with (
    go_at_call 40
    refine H.out.mono ?_
    rintro e w1 ⟨d,c',rfl,ho,hb⟩
    have H1:=Lib.hid (And.intro ho hb)
    clear ho hb)
  go_loopw [8] (fun s wr=>∃k:Nat,k≤row.length∧s=.int .i64 k∧wr.ownsRow w.heap.size 4 1 (.slice (some ⟨d,0,none⟩) (row.length+1) c') (row.length+1) (bls row.length fun i=>if i≤k then manyF row cs f i else f i)∧Below w.heap.size w wr) (fun s _=>row.length-(intOf s).toNat)
  case atStart=>
    refine⟨0,Nat.zero_le _,rfl,?_,H1.out.2⟩
    rw[bls_ext (g:=f) fun i _=>by
      cases i with
      | zero=>rfl
      | succ i=>rfl]
    exact H1.out.1
  case round=>
    obtain⟨k,hk,rfl,ho,hb⟩:=hrel
    by_cases hlt:k<row.length
    ·have u1:(k:Int)<(row.length:Int):=by omega
     have u2:(0:Int)≤(k:Int):=by omega
     have u3:(k:Int)<(row.length:Int)+1:=by omega
     have u4:(k:Int)+1<(row.length:Int)+1:=by omega
     have u5:(0:Int)≤(k:Int)+1:=by omega
     have x1:=own_cell ho k _ (bls_get _ (by omega))
     have x2:=own_cell ho (k+1) _ (bls_get _ (by omega))
     have x3:=own_frozen ho (k+1)
     rw[if_pos (Nat.le_refl _)] at x1
     rw[if_neg (by omega)] at x2
     obtain⟨b,hbb⟩:∃b,b=manyF row cs f k:=⟨_,rfl⟩
     obtain⟨a,haa⟩:∃a,a=f (k+1):=⟨_,rfl⟩
     obtain⟨q,hq⟩:∃q,q=inL row[k] cs:=⟨_,rfl⟩
     have hz2:manyF row cs f (k+1)=(a||(b&&q)):=by
       rw[hbb,hq,haa]
       show (f (k+1)||(manyF row cs f k&&(match row[k]? with|some c=>inL c cs|none=>false)))=_
       rw[List.getElem?_eq_getElem hlt]
     have c1:∀W,Calls Tryz.prog 45 #[.int .u8 ((row[k]).toNat:Int),.string ⟨cs.toArray⟩] W fun e w'=>e=.returned (.bool q)∧W=w':=fun W=>by rw[hq];exact in_c _ _ W (by omega)
     rw[←hbb] at x1
     rw[←haa] at x2
     have HK:=Lib.hid (And.intro hb (And.intro ho (And.intro c1 hz2)))
     clear hb ho c1 hbb hq hz2 haa
     cases a<;>cases b<;>cases q
     all_goals (
       go_wp2_with (
         go_at_call 45
         refine(HK.out.2.2.1 _).mono ?_
         rintro e w9 ⟨rfl,rfl⟩)
       refine⟨⟨k+1,by omega,by go_num,?_,?_⟩,by simp[intOf]<;>omega⟩
       ·have hs:=(HK.out.2.1.stored (k+1) (.bool (manyF row cs f (k+1)))).1
        rw[bls_stepm rfl,HK.out.2.2.2] at hs
        exact hs
       ·exact below_put HK.out.1 HK.out.2.1 (HK.out.2.1.stored (k+1) _).2)
    ·obtain rfl:k=row.length:=by omega
     rw[bls_ext (g:=manyF row cs f) fun i hi=>by rw[if_pos hi]] at ho
     have HK:=Lib.hid (And.intro hb ho)
     clear hb ho
     go_wp2_with fail
     go_ret
     exact⟨_,rfl,⟨_,_,rfl,Rd.of_own HK.out.2⟩,HK.out.1⟩
end Go.Proofs.YtlbfdbinaekjoaaGreatDoor
namespace Go.Proofs.YtlbfdbinaekjoaaGreatDoor
open Go.RowKit
set_option linter.unusedVariables false
set_option linter.unusedSimpArgs false
set_option maxRecDepth 100000
theorem Rm.congL {a b c:Rx} {w:List UInt8} (h:Rm (.cat a c) w) (k:∀w,Rm a w→Rm b w):Rm (.cat b c) w:=by
  obtain⟨u,v,rfl,h1,h2⟩:=h.cat_inv
  exact .cat (k _ h1) h2
theorem Rm.asc2 {x a b c:Rx} {w:List UInt8} (h:Rm (.cat (.cat (.cat x a) b) c) w):Rm (.cat x (.cat (.cat a b) c)) w:=(h.congL fun _=>Rm.asc).asc
theorem Rm.asc3 {x a b c d:Rx} {w:List UInt8} (h:Rm (.cat (.cat (.cat (.cat x a) b) c) d) w):Rm (.cat x (.cat (.cat (.cat a b) c) d)) w:=(h.congL fun _=>Rm.asc2).asc
theorem Rm.asc4 {x a b c d e:Rx} {w:List UInt8} (h:Rm (.cat (.cat (.cat (.cat (.cat x a) b) c) d) e) w):Rm (.cat x (.cat (.cat (.cat (.cat a b) c) d) e)) w:=(h.congL fun _=>Rm.asc3).asc
theorem Rm.asc5 {x a b c d e f:Rx} {w:List UInt8} (h:Rm (.cat (.cat (.cat (.cat (.cat (.cat x a) b) c) d) e) f) w):Rm (.cat x (.cat (.cat (.cat (.cat (.cat a b) c) d) e) f)) w:=(h.congL fun _=>Rm.asc4).asc
theorem Rm.altm {a b c d:Rx} {w:List UInt8} (h:Rm (.alt a b) w) (k:∀w,Rm a w→Rm c w) (l:∀w,Rm b w→Rm d w):Rm (.alt c d) w:=by
  rcases h.alt_inv with h|h
  ·exact .altl (k _ h)
  ·exact .altr (l _ h)
theorem Rm.epsl {a:Rx} {w:List UInt8} (h:Rm (.cat .eps a) w):Rm a w:=by
  obtain⟨u,v,rfl,h1,h2⟩:=h.cat_inv
  rw[h1.eps_inv];exact h2
theorem Rm.starz {a:Rx} {u v:List UInt8} (h:Rm (.star a) u) (k:Rm a v):Rm (.star a) (u++v):=by
  have key:∀{b:Rx} {u:List UInt8},Rm b u→b=.star a→Rm (.star a) (u++v):=by
    intro b u h
    induction h with
    | s0=>intro e;cases e;have:=Rm.s1 k Rm.s0;simpa using this
    | s1 h _ _ ih=>intro e;cases e;rw[List.append_assoc];exact .s1 h (ih rfl)
    | _=>intro e;cases e
  exact key h rfl
theorem Rm.rep {r q:Rx} {w:List UInt8} (h:Rm (.alt (.cat r (.star q)) (.cat (.cat r (.star q)) q)) w):Rm (.cat r (.star q)) w:=by
  rcases h.alt_inv with h|h
  ·exact h
  ·obtain⟨u,v,rfl,h1,h2⟩:=h.asc.cat_inv
   obtain⟨v1,v2,rfl,h3,h4⟩:=h2.cat_inv
   exact .cat h1 (h3.starz h4)
theorem PLc.val {W:World} {row:List UInt8} {v:Value} {f:Nat→Bool} (h:PLc W row v f):∃g o c,v=.slice (some ⟨g,o,none⟩) (row.length+1) c∧W.cell? ⟨g,o+row.length,none⟩=some (.bool (f row.length)):=by
  obtain⟨A,c,rfl,h1⟩:=h
  obtain⟨g,o,rfl,_,hc⟩:=rd_b h1
  exact⟨g,o,c,rfl,hc _ (Nat.le_refl _)⟩
def lisF (row:List UInt8) (f:Nat→Bool):Nat→Bool:=oneF row [76] (manyF row [110] f)
def sepF (row:List UInt8) (f:Nat→Bool):Nat→Bool:=orF (manyF row [110] (oneF row [59,38] f)) (manyF row [110] (oneF row [110] f))
def pcF (row:List UInt8) (f:Nat→Bool):Nat→Nat→Bool
  | 1=>oneF row [65] (sepF row f)
  | 2=>oneF row [73] (manyF row [110] (oneF row [97,111] f))
  | 3=>oneF row cX (manyF row [110] (oneF row [124] f))
  | 4=>lisF row (oneF row [116] (lisF row (oneF row [101] f)))
  | 5=>manyF row [110] (oneF row [121] (oneF row [84] f))
  | _=>oneF row [87] (oneF row [124] f)
def repF (row:List UInt8) (k:Nat):Nat→(Nat→Bool)→(Nat→Bool)
  | 0,f=>f
  | n+1,f=>repF row k n (orF f (pcF row f k))
theorem Lg.lst {row:List UInt8} {f:Nat→Bool} {R:Rx} (h:Lg row f R):Lg row (lisF row f) (Rx.lst R):=(h.many _).one _
theorem Lg.sep {row:List UInt8} {f:Nat→Bool} {R:Rx} (h:Lg row f R):Lg row (sepF row f) (.cat R sepX):=(((h.one [59,38]).many [110]).alt ((h.one [110]).many [110])).re fun _ h=>(h.altm (fun _=>Rm.asc) fun _=>Rm.asc).fac
theorem Lg.pc {row:List UInt8} {f:Nat→Bool} {R:Rx} (h:Lg row f R) (k:Nat) (hk:1≤k∧k≤6):Lg row (pcF row f k) (.cat R (pcX k)):=by
  have key:k=1∨k=2∨k=3∨k=4∨k=5∨k=6:=by omega
  rcases key with rfl|rfl|rfl|rfl|rfl|rfl
  ·exact(h.sep.one [65]).re fun _ h=>h.asc
  ·exact(((h.one [97,111]).many [110]).one [73]).re fun _ h=>h.asc2
  ·exact(((h.one [124]).many [110]).one cX).re fun _ h=>h.asc2
  ·exact((((h.one [101]).lst).one [116]).lst).re fun _ h=>h.asc5
  ·exact(((h.one [84]).one [121]).many [110]).re fun _ h=>h.asc2
  ·exact((h.one [124]).one [87]).re fun _ h=>h.asc
theorem Lg.rep {row:List UInt8} {R:Rx} (k:Nat) (hk:1≤k∧k≤6):∀(n:Nat) {f:Nat→Bool},Lg row f (.cat R (.star (pcX k)))→Lg row (repF row k n f) (.cat R (.star (pcX k)))
  | 0,_,h=>h
  | n+1,f,h=>Lg.rep k hk n ((h.alt (h.pc k hk)).re fun _ h=>h.rep)
theorem Lg.rep0 {row:List UInt8} {f:Nat→Bool} {R:Rx} (h:Lg row f R) (k:Nat) (hk:1≤k∧k≤6) (n:Nat):Lg row (repF row k n f) (.cat R (.star (pcX k))):=
  Lg.rep k hk n (h.re fun _ h=>by have:=Rm.cat h (Rm.s0 (a:=pcX k));rwa [List.append_nil] at this)
theorem rlist_m (row:List UInt8) (v:Value) (f:Nat→Bool) (w:World) (hl:row.length≤10000) (h:PLc w row v f):Calls Tryz.prog 44 #[.string ⟨row.toArray⟩,v] w fun e w'=>∃v',e=.returned v'∧PLc w' row v' (lisF row f)∧Below w.heap.size w w':=by
  have HB:=Lib.hid (Below.refl w.heap.size w)
  have P:=Lib.hid h
  clear h
  go_enter Tryz.func44,Tryz.ntmps44
  go_wp2_with (first
    | (go_at_call 41
       with_reducible refine(one_m row [76] v1 _ _ hl (by decide) P1.out).mono ?_
       rintro e w2 ⟨v2,rfl,p,hb⟩
       have P2:=Lib.hid p
       replace HB:=Lib.hid (HB.out.trans (hb.mono HB.out.size))
       clear p hb)
    | (go_at_call 39
       with_reducible refine(many_m row [110] v _ _ hl (by decide) P.out).mono ?_
       rintro e w1 ⟨v1,rfl,p,hb⟩
       have P1:=Lib.hid p
       replace HB:=Lib.hid (HB.out.trans (hb.mono HB.out.size))
       clear p hb)
    | fail)
  go_ret
  exact⟨_,rfl,P2.out,HB.out⟩
theorem rsep_m (row:List UInt8) (v:Value) (f:Nat→Bool) (w:World) (hl:row.length≤10000) (h:PLc w row v f):Calls Tryz.prog 43 #[.string ⟨row.toArray⟩,v] w fun e w'=>∃v',e=.returned v'∧PLc w' row v' (sepF row f)∧Below w.heap.size w w':=by
  have HB:=Lib.hid (Below.refl w.heap.size w)
  have P:=Lib.hid h
  clear h
  go_enter Tryz.func43,Tryz.ntmps43
  go_wp2_with (first
    | (go_at_call 40
       with_reducible refine(or_m row v2 v4 _ _ _ hl P2.out P4.out).mono ?_
       rintro e w5 ⟨v5,rfl,p,hb⟩
       have P5:=Lib.hid p
       replace HB:=Lib.hid (HB.out.trans (hb.mono HB.out.size))
       clear p hb)
    | (go_at_call 39
       with_reducible refine(many_m row [110] v3 _ _ hl (by decide) P3.out).mono ?_
       rintro e w4 ⟨v4,rfl,p,hb⟩
       replace P2:=Lib.hid (P2.out.next hb)
       have P4:=Lib.hid p
       replace HB:=Lib.hid (HB.out.trans (hb.mono HB.out.size))
       clear p hb)
    | (go_at_call 41
       with_reducible refine(one_m row [110] v _ _ hl (by decide) P.out).mono ?_
       rintro e w3 ⟨v3,rfl,p,hb⟩
       replace P2:=Lib.hid (P2.out.next hb)
       have P3:=Lib.hid p
       replace HB:=Lib.hid (HB.out.trans (hb.mono HB.out.size))
       clear p hb)
    | (go_at_call 39
       with_reducible refine(many_m row [110] v1 _ _ hl (by decide) P1.out).mono ?_
       rintro e w2 ⟨v2,rfl,p,hb⟩
       replace P:=Lib.hid (P.out.next hb)
       have P2:=Lib.hid p
       replace HB:=Lib.hid (HB.out.trans (hb.mono HB.out.size))
       clear p hb)
    | (go_at_call 41
       with_reducible refine(one_m row [59,38] v _ _ hl (by decide) P.out).mono ?_
       rintro e w1 ⟨v1,rfl,p,hb⟩
       replace P:=Lib.hid (P.out.next hb)
       have P1:=Lib.hid p
       replace HB:=Lib.hid (HB.out.trans (hb.mono HB.out.size))
       clear p hb)
    | fail)
  go_ret
  exact⟨_,rfl,P5.out,HB.out⟩
set_option maxHeartbeats 2000000 in
theorem rep1_m (row:List UInt8) (v:Value) (f:Nat→Bool) (w:World) (hl:row.length≤10000) (h:PLc w row v f):Calls Tryz.prog 42 #[.string ⟨row.toArray⟩,v,.int .i64 1] w fun e w'=>∃v',e=.returned v'∧PLc w' row v' (repF row 1 (row.length+1) f)∧Below w.heap.size w w':=by
  obtain⟨T,hT⟩:∃T,T=repF row 1 (row.length+1) f:=⟨_,rfl⟩
  rw[←hT]
  have H:=Lib.hid (And.intro h hT)
  clear h hT
  go_enter Tryz.func42,Tryz.ntmps42
  go_wp2_with fail
  go_loopw [1,7] (fun s1 s wr=>∃(k:Nat) (g:Nat→Bool),k≤row.length+1∧s=.int .i64 k∧PLc wr row s1 g∧T=repF row 1 (row.length+1-k) g∧Below w.heap.size w wr) (fun s1 s _=>row.length+1-(intOf s).toNat)
  case atStart=>exact⟨0,f,Nat.zero_le _,rfl,H.out.1,H.out.2,Below.refl _ _⟩
  case round=>
    obtain⟨k,g,hk,rfl,hp,hg,hb⟩:=hrel
    rename_i v0
    have P:=Lib.hid hp
    have HB:=Lib.hid hb
    clear hp hb
    by_cases hlt:k≤row.length
    ·have u1:(k:Int)≤(row.length:Int):=by omega
     rw[show row.length+1-k=(row.length+1-(k+1))+1 by omega] at hg
     have HG:=Lib.hid hg
     clear hg
     go_wp2_with (first
       | (go_at_call 40
          with_reducible refine(or_m row _ v2 _ _ _ hl P.out P2.out).mono ?_
          rintro e w3 ⟨v3,rfl,p,hb⟩
          have P3:=Lib.hid p
          replace HB:=Lib.hid (HB.out.trans (hb.mono HB.out.size))
          clear p hb)
       | (go_at_call 41
          with_reducible refine(one_m row [65] v1 _ _ hl (by decide) P1.out).mono ?_
          rintro e w2 ⟨v2,rfl,p,hb⟩
          replace P:=Lib.hid (P.out.next hb)
          have P2:=Lib.hid p
          replace HB:=Lib.hid (HB.out.trans (hb.mono HB.out.size))
          clear p hb)
       | (go_at_call 43
          with_reducible refine(rsep_m row _ _ _ hl P.out).mono ?_
          rintro e w1 ⟨v1,rfl,p,hb⟩
          replace P:=Lib.hid (P.out.next hb)
          have P1:=Lib.hid p
          replace HB:=Lib.hid (HB.out.trans (hb.mono HB.out.size))
          clear p hb)
       | fail)
     exact⟨⟨k+1,_,by omega,by go_num,P3.out,HG.out,HB.out⟩,by simp[intOf]<;>omega⟩
    ·have u1:¬(k:Int)≤(row.length:Int):=by omega
     rw[show row.length+1-k=0 by omega] at hg
     have HG:=Lib.hid (show T=g from hg)
     clear hg
     go_wp2_with fail
     go_ret
     exact⟨_,rfl,by rw[HG.out];exact P.out,HB.out⟩
set_option maxHeartbeats 2000000 in
theorem rep2_m (row:List UInt8) (v:Value) (f:Nat→Bool) (w:World) (hl:row.length≤10000) (h:PLc w row v f):Calls Tryz.prog 42 #[.string ⟨row.toArray⟩,v,.int .i64 2] w fun e w'=>∃v',e=.returned v'∧PLc w' row v' (repF row 2 (row.length+1) f)∧Below w.heap.size w w':=by
  obtain⟨T,hT⟩:∃T,T=repF row 2 (row.length+1) f:=⟨_,rfl⟩
  rw[←hT]
  have H:=Lib.hid (And.intro h hT)
  clear h hT
  go_enter Tryz.func42,Tryz.ntmps42
  go_wp2_with fail
  go_loopw [1,7] (fun s1 s wr=>∃(k:Nat) (g:Nat→Bool),k≤row.length+1∧s=.int .i64 k∧PLc wr row s1 g∧T=repF row 2 (row.length+1-k) g∧Below w.heap.size w wr) (fun s1 s _=>row.length+1-(intOf s).toNat)
  case atStart=>exact⟨0,f,Nat.zero_le _,rfl,H.out.1,H.out.2,Below.refl _ _⟩
  case round=>
    obtain⟨k,g,hk,rfl,hp,hg,hb⟩:=hrel
    rename_i v0
    have P:=Lib.hid hp
    have HB:=Lib.hid hb
    clear hp hb
    by_cases hlt:k≤row.length
    ·have u1:(k:Int)≤(row.length:Int):=by omega
     rw[show row.length+1-k=(row.length+1-(k+1))+1 by omega] at hg
     have HG:=Lib.hid hg
     clear hg
     go_wp2_with (first
       | (go_at_call 40
          with_reducible refine(or_m row _ v3 _ _ _ hl P.out P3.out).mono ?_
          rintro e w4 ⟨v4,rfl,p,hb⟩
          have P4:=Lib.hid p
          replace HB:=Lib.hid (HB.out.trans (hb.mono HB.out.size))
          clear p hb)
       | (go_at_call 41
          with_reducible refine(one_m row [73] v2 _ _ hl (by decide) P2.out).mono ?_
          rintro e w3 ⟨v3,rfl,p,hb⟩
          replace P:=Lib.hid (P.out.next hb)
          have P3:=Lib.hid p
          replace HB:=Lib.hid (HB.out.trans (hb.mono HB.out.size))
          clear p hb)
       | (go_at_call 39
          with_reducible refine(many_m row [110] v1 _ _ hl (by decide) P1.out).mono ?_
          rintro e w2 ⟨v2,rfl,p,hb⟩
          replace P:=Lib.hid (P.out.next hb)
          have P2:=Lib.hid p
          replace HB:=Lib.hid (HB.out.trans (hb.mono HB.out.size))
          clear p hb)
       | (go_at_call 41
          with_reducible refine(one_m row [97,111] _ _ _ hl (by decide) P.out).mono ?_
          rintro e w1 ⟨v1,rfl,p,hb⟩
          replace P:=Lib.hid (P.out.next hb)
          have P1:=Lib.hid p
          replace HB:=Lib.hid (HB.out.trans (hb.mono HB.out.size))
          clear p hb)
       | fail)
     exact⟨⟨k+1,_,by omega,by go_num,P4.out,HG.out,HB.out⟩,by simp[intOf]<;>omega⟩
    ·have u1:¬(k:Int)≤(row.length:Int):=by omega
     rw[show row.length+1-k=0 by omega] at hg
     have HG:=Lib.hid (show T=g from hg)
     clear hg
     go_wp2_with fail
     go_ret
     exact⟨_,rfl,by rw[HG.out];exact P.out,HB.out⟩
set_option maxHeartbeats 2000000 in
theorem rep3_m (row:List UInt8) (v:Value) (f:Nat→Bool) (w:World) (hl:row.length≤10000) (h:PLc w row v f):Calls Tryz.prog 42 #[.string ⟨row.toArray⟩,v,.int .i64 3] w fun e w'=>∃v',e=.returned v'∧PLc w' row v' (repF row 3 (row.length+1) f)∧Below w.heap.size w w':=by
  obtain⟨T,hT⟩:∃T,T=repF row 3 (row.length+1) f:=⟨_,rfl⟩
  rw[←hT]
  have H:=Lib.hid (And.intro h hT)
  clear h hT
  go_enter Tryz.func42,Tryz.ntmps42
  go_wp2_with fail
  go_loopw [1,7] (fun s1 s wr=>∃(k:Nat) (g:Nat→Bool),k≤row.length+1∧s=.int .i64 k∧PLc wr row s1 g∧T=repF row 3 (row.length+1-k) g∧Below w.heap.size w wr) (fun s1 s _=>row.length+1-(intOf s).toNat)
  case atStart=>exact⟨0,f,Nat.zero_le _,rfl,H.out.1,H.out.2,Below.refl _ _⟩
  case round=>
    obtain⟨k,g,hk,rfl,hp,hg,hb⟩:=hrel
    rename_i v0
    have P:=Lib.hid hp
    have HB:=Lib.hid hb
    clear hp hb
    by_cases hlt:k≤row.length
    ·have u1:(k:Int)≤(row.length:Int):=by omega
     rw[show row.length+1-k=(row.length+1-(k+1))+1 by omega] at hg
     have HG:=Lib.hid hg
     clear hg
     go_wp2_with (first
       | (go_at_call 40
          with_reducible refine(or_m row _ v3 _ _ _ hl P.out P3.out).mono ?_
          rintro e w4 ⟨v4,rfl,p,hb⟩
          have P4:=Lib.hid p
          replace HB:=Lib.hid (HB.out.trans (hb.mono HB.out.size))
          clear p hb)
       | (go_at_call 41
          with_reducible refine(one_m row [83,66,85,70,72,79,67,78] v2 _ _ hl (by decide) P2.out).mono ?_
          rintro e w3 ⟨v3,rfl,p,hb⟩
          replace P:=Lib.hid (P.out.next hb)
          have P3:=Lib.hid p
          replace HB:=Lib.hid (HB.out.trans (hb.mono HB.out.size))
          clear p hb)
       | (go_at_call 39
          with_reducible refine(many_m row [110] v1 _ _ hl (by decide) P1.out).mono ?_
          rintro e w2 ⟨v2,rfl,p,hb⟩
          replace P:=Lib.hid (P.out.next hb)
          have P2:=Lib.hid p
          replace HB:=Lib.hid (HB.out.trans (hb.mono HB.out.size))
          clear p hb)
       | (go_at_call 41
          with_reducible refine(one_m row [124] _ _ _ hl (by decide) P.out).mono ?_
          rintro e w1 ⟨v1,rfl,p,hb⟩
          replace P:=Lib.hid (P.out.next hb)
          have P1:=Lib.hid p
          replace HB:=Lib.hid (HB.out.trans (hb.mono HB.out.size))
          clear p hb)
       | fail)
     exact⟨⟨k+1,_,by omega,by go_num,P4.out,HG.out,HB.out⟩,by simp[intOf]<;>omega⟩
    ·have u1:¬(k:Int)≤(row.length:Int):=by omega
     rw[show row.length+1-k=0 by omega] at hg
     have HG:=Lib.hid (show T=g from hg)
     clear hg
     go_wp2_with fail
     go_ret
     exact⟨_,rfl,by rw[HG.out];exact P.out,HB.out⟩
set_option maxHeartbeats 2000000 in
theorem rep4_m (row:List UInt8) (v:Value) (f:Nat→Bool) (w:World) (hl:row.length≤10000) (h:PLc w row v f):Calls Tryz.prog 42 #[.string ⟨row.toArray⟩,v,.int .i64 4] w fun e w'=>∃v',e=.returned v'∧PLc w' row v' (repF row 4 (row.length+1) f)∧Below w.heap.size w w':=by
  obtain⟨T,hT⟩:∃T,T=repF row 4 (row.length+1) f:=⟨_,rfl⟩
  rw[←hT]
  have H:=Lib.hid (And.intro h hT)
  clear h hT
  go_enter Tryz.func42,Tryz.ntmps42
  go_wp2_with fail
  go_loopw [1,7] (fun s1 s wr=>∃(k:Nat) (g:Nat→Bool),k≤row.length+1∧s=.int .i64 k∧PLc wr row s1 g∧T=repF row 4 (row.length+1-k) g∧Below w.heap.size w wr) (fun s1 s _=>row.length+1-(intOf s).toNat)
  case atStart=>exact⟨0,f,Nat.zero_le _,rfl,H.out.1,H.out.2,Below.refl _ _⟩
  case round=>
    obtain⟨k,g,hk,rfl,hp,hg,hb⟩:=hrel
    rename_i v0
    have P:=Lib.hid hp
    have HB:=Lib.hid hb
    clear hp hb
    by_cases hlt:k≤row.length
    ·have u1:(k:Int)≤(row.length:Int):=by omega
     rw[show row.length+1-k=(row.length+1-(k+1))+1 by omega] at hg
     have HG:=Lib.hid hg
     clear hg
     go_wp2_with (first
       | (go_at_call 40
          with_reducible refine(or_m row _ v4 _ _ _ hl P.out P4.out).mono ?_
          rintro e w5 ⟨v5,rfl,p,hb⟩
          have P5:=Lib.hid p
          replace HB:=Lib.hid (HB.out.trans (hb.mono HB.out.size))
          clear p hb)
       | (go_at_call 44
          with_reducible refine(rlist_m row v3 _ _ hl P3.out).mono ?_
          rintro e w4 ⟨v4,rfl,p,hb⟩
          replace P:=Lib.hid (P.out.next hb)
          have P4:=Lib.hid p
          replace HB:=Lib.hid (HB.out.trans (hb.mono HB.out.size))
          clear p hb)
       | (go_at_call 41
          with_reducible refine(one_m row [116] v2 _ _ hl (by decide) P2.out).mono ?_
          rintro e w3 ⟨v3,rfl,p,hb⟩
          replace P:=Lib.hid (P.out.next hb)
          have P3:=Lib.hid p
          replace HB:=Lib.hid (HB.out.trans (hb.mono HB.out.size))
          clear p hb)
       | (go_at_call 44
          with_reducible refine(rlist_m row v1 _ _ hl P1.out).mono ?_
          rintro e w2 ⟨v2,rfl,p,hb⟩
          replace P:=Lib.hid (P.out.next hb)
          have P2:=Lib.hid p
          replace HB:=Lib.hid (HB.out.trans (hb.mono HB.out.size))
          clear p hb)
       | (go_at_call 41
          with_reducible refine(one_m row [101] _ _ _ hl (by decide) P.out).mono ?_
          rintro e w1 ⟨v1,rfl,p,hb⟩
          replace P:=Lib.hid (P.out.next hb)
          have P1:=Lib.hid p
          replace HB:=Lib.hid (HB.out.trans (hb.mono HB.out.size))
          clear p hb)
       | fail)
     exact⟨⟨k+1,_,by omega,by go_num,P5.out,HG.out,HB.out⟩,by simp[intOf]<;>omega⟩
    ·have u1:¬(k:Int)≤(row.length:Int):=by omega
     rw[show row.length+1-k=0 by omega] at hg
     have HG:=Lib.hid (show T=g from hg)
     clear hg
     go_wp2_with fail
     go_ret
     exact⟨_,rfl,by rw[HG.out];exact P.out,HB.out⟩
set_option maxHeartbeats 2000000 in
theorem rep5_m (row:List UInt8) (v:Value) (f:Nat→Bool) (w:World) (hl:row.length≤10000) (h:PLc w row v f):Calls Tryz.prog 42 #[.string ⟨row.toArray⟩,v,.int .i64 5] w fun e w'=>∃v',e=.returned v'∧PLc w' row v' (repF row 5 (row.length+1) f)∧Below w.heap.size w w':=by
  obtain⟨T,hT⟩:∃T,T=repF row 5 (row.length+1) f:=⟨_,rfl⟩
  rw[←hT]
  have H:=Lib.hid (And.intro h hT)
  clear h hT
  go_enter Tryz.func42,Tryz.ntmps42
  go_wp2_with fail
  go_loopw [1,7] (fun s1 s wr=>∃(k:Nat) (g:Nat→Bool),k≤row.length+1∧s=.int .i64 k∧PLc wr row s1 g∧T=repF row 5 (row.length+1-k) g∧Below w.heap.size w wr) (fun s1 s _=>row.length+1-(intOf s).toNat)
  case atStart=>exact⟨0,f,Nat.zero_le _,rfl,H.out.1,H.out.2,Below.refl _ _⟩
  case round=>
    obtain⟨k,g,hk,rfl,hp,hg,hb⟩:=hrel
    rename_i v0
    have P:=Lib.hid hp
    have HB:=Lib.hid hb
    clear hp hb
    by_cases hlt:k≤row.length
    ·have u1:(k:Int)≤(row.length:Int):=by omega
     rw[show row.length+1-k=(row.length+1-(k+1))+1 by omega] at hg
     have HG:=Lib.hid hg
     clear hg
     go_wp2_with (first
       | (go_at_call 40
          with_reducible refine(or_m row _ v3 _ _ _ hl P.out P3.out).mono ?_
          rintro e w4 ⟨v4,rfl,p,hb⟩
          have P4:=Lib.hid p
          replace HB:=Lib.hid (HB.out.trans (hb.mono HB.out.size))
          clear p hb)
       | (go_at_call 39
          with_reducible refine(many_m row [110] v2 _ _ hl (by decide) P2.out).mono ?_
          rintro e w3 ⟨v3,rfl,p,hb⟩
          replace P:=Lib.hid (P.out.next hb)
          have P3:=Lib.hid p
          replace HB:=Lib.hid (HB.out.trans (hb.mono HB.out.size))
          clear p hb)
       | (go_at_call 41
          with_reducible refine(one_m row [121] v1 _ _ hl (by decide) P1.out).mono ?_
          rintro e w2 ⟨v2,rfl,p,hb⟩
          replace P:=Lib.hid (P.out.next hb)
          have P2:=Lib.hid p
          replace HB:=Lib.hid (HB.out.trans (hb.mono HB.out.size))
          clear p hb)
       | (go_at_call 41
          with_reducible refine(one_m row [84] _ _ _ hl (by decide) P.out).mono ?_
          rintro e w1 ⟨v1,rfl,p,hb⟩
          replace P:=Lib.hid (P.out.next hb)
          have P1:=Lib.hid p
          replace HB:=Lib.hid (HB.out.trans (hb.mono HB.out.size))
          clear p hb)
       | fail)
     exact⟨⟨k+1,_,by omega,by go_num,P4.out,HG.out,HB.out⟩,by simp[intOf]<;>omega⟩
    ·have u1:¬(k:Int)≤(row.length:Int):=by omega
     rw[show row.length+1-k=0 by omega] at hg
     have HG:=Lib.hid (show T=g from hg)
     clear hg
     go_wp2_with fail
     go_ret
     exact⟨_,rfl,by rw[HG.out];exact P.out,HB.out⟩
set_option maxHeartbeats 2000000 in
theorem rep6_m (row:List UInt8) (v:Value) (f:Nat→Bool) (w:World) (hl:row.length≤10000) (h:PLc w row v f):Calls Tryz.prog 42 #[.string ⟨row.toArray⟩,v,.int .i64 6] w fun e w'=>∃v',e=.returned v'∧PLc w' row v' (repF row 6 (row.length+1) f)∧Below w.heap.size w w':=by
  obtain⟨T,hT⟩:∃T,T=repF row 6 (row.length+1) f:=⟨_,rfl⟩
  rw[←hT]
  have H:=Lib.hid (And.intro h hT)
  clear h hT
  go_enter Tryz.func42,Tryz.ntmps42
  go_wp2_with fail
  go_loopw [1,7] (fun s1 s wr=>∃(k:Nat) (g:Nat→Bool),k≤row.length+1∧s=.int .i64 k∧PLc wr row s1 g∧T=repF row 6 (row.length+1-k) g∧Below w.heap.size w wr) (fun s1 s _=>row.length+1-(intOf s).toNat)
  case atStart=>exact⟨0,f,Nat.zero_le _,rfl,H.out.1,H.out.2,Below.refl _ _⟩
  case round=>
    obtain⟨k,g,hk,rfl,hp,hg,hb⟩:=hrel
    rename_i v0
    have P:=Lib.hid hp
    have HB:=Lib.hid hb
    clear hp hb
    by_cases hlt:k≤row.length
    ·have u1:(k:Int)≤(row.length:Int):=by omega
     rw[show row.length+1-k=(row.length+1-(k+1))+1 by omega] at hg
     have HG:=Lib.hid hg
     clear hg
     go_wp2_with (first
       | (go_at_call 40
          with_reducible refine(or_m row _ v2 _ _ _ hl P.out P2.out).mono ?_
          rintro e w3 ⟨v3,rfl,p,hb⟩
          have P3:=Lib.hid p
          replace HB:=Lib.hid (HB.out.trans (hb.mono HB.out.size))
          clear p hb)
       | (go_at_call 41
          with_reducible refine(one_m row [87] v1 _ _ hl (by decide) P1.out).mono ?_
          rintro e w2 ⟨v2,rfl,p,hb⟩
          replace P:=Lib.hid (P.out.next hb)
          have P2:=Lib.hid p
          replace HB:=Lib.hid (HB.out.trans (hb.mono HB.out.size))
          clear p hb)
       | (go_at_call 41
          with_reducible refine(one_m row [124] _ _ _ hl (by decide) P.out).mono ?_
          rintro e w1 ⟨v1,rfl,p,hb⟩
          replace P:=Lib.hid (P.out.next hb)
          have P1:=Lib.hid p
          replace HB:=Lib.hid (HB.out.trans (hb.mono HB.out.size))
          clear p hb)
       | fail)
     exact⟨⟨k+1,_,by omega,by go_num,P3.out,HG.out,HB.out⟩,by simp[intOf]<;>omega⟩
    ·have u1:¬(k:Int)≤(row.length:Int):=by omega
     rw[show row.length+1-k=0 by omega] at hg
     have HG:=Lib.hid (show T=g from hg)
     clear hg
     go_wp2_with fail
     go_ret
     exact⟨_,rfl,by rw[HG.out];exact P.out,HB.out⟩
def fg1 (row:List UInt8):Nat→Bool:=
  let a1:=(manyF row [110] begF)
  (orF a1 (oneF row [76] a1))
theorem lg1 (row:List UInt8):Lg row (fg1 row) (frm 1):=by
  have b0:=Lg.beg row
  have b1:=((b0.many [110]).re fun _ h=>h.epsl)
  exact((b1.alt (b1.one [76])).re fun _ h=>h.opt)
def fg2 (row:List UInt8):Nat→Bool:=
  let a1:=(repF row 1 (row.length+1) (oneF row [65] begF))
  (orF a1 (sepF row a1))
theorem lg2 (row:List UInt8):Lg row (fg2 row) (frm 2):=by
  have b0:=Lg.beg row
  have b1:=(((b0.one [65]).re fun _ h=>h.epsl).rep0 1 (by decide) (row.length+1))
  exact((b1.alt b1.sep).re fun _ h=>h.opt)
def fg3 (row:List UInt8):Nat→Bool:=
  (repF row 2 (row.length+1) (oneF row [73] begF))
theorem lg3 (row:List UInt8):Lg row (fg3 row) (frm 3):=by
  have b0:=Lg.beg row
  exact(((b0.one [73]).re fun _ h=>h.epsl).rep0 2 (by decide) (row.length+1))
def fg4 (row:List UInt8):Nat→Bool:=
  (repF row 3 (row.length+1) (oneF row [83,66,85,70,72,79,67,78] (orF begF (oneF row [33] begF))))
theorem lg4 (row:List UInt8):Lg row (fg4 row) (frm 4):=by
  have b0:=Lg.beg row
  exact(((b0.alt ((b0.one [33]).re fun _ h=>h.epsl)).one [83,66,85,70,72,79,67,78]).rep0 3 (by decide) (row.length+1))
def fg5 (row:List UInt8):Nat→Bool:=
  let a1:=(manyF row [88,82] begF)
  (orF a1 (manyF row [87,82] (oneF row [87] a1)))
theorem lg5 (row:List UInt8):Lg row (fg5 row) (frm 5):=by
  have b0:=Lg.beg row
  have b1:=((b0.many [88,82]).re fun _ h=>h.epsl)
  exact((b1.alt ((b1.one [87]).many [87,82])).re fun _ h=>(h.altm (fun _ h=>h) fun _=>Rm.asc).opt)
def fg8 (row:List UInt8):Nat→Bool:=
  (oneF row [87] (oneF row [60] (orF begF (oneF row [35] begF))))
theorem lg8 (row:List UInt8):Lg row (fg8 row) (frm 8):=by
  have b0:=Lg.beg row
  exact(((b0.alt ((b0.one [35]).re fun _ h=>h.epsl)).one [60]).one [87])
def fg9 (row:List UInt8):Nat→Bool:=
  (manyF row [82] (oneF row [125] (lisF row (oneF row [123] begF))))
theorem lg9 (row:List UInt8):Lg row (fg9 row) (frm 9):=by
  have b0:=Lg.beg row
  exact((((b0.one [123]).re fun _ h=>h.epsl).lst.one [125]).many [82])
def fg10 (row:List UInt8):Nat→Bool:=
  (manyF row [82] (oneF row [41] (lisF row (oneF row [40] begF))))
theorem lg10 (row:List UInt8):Lg row (fg10 row) (frm 10):=by
  have b0:=Lg.beg row
  exact((((b0.one [40]).re fun _ h=>h.epsl).lst.one [41]).many [82])
def fg11 (row:List UInt8):Nat→Bool:=
  let a1:=(lisF row (oneF row [116] (lisF row (oneF row [105] begF))))
  let a2:=(repF row 4 (row.length+1) a1)
  let a3:=(orF a2 (lisF row (oneF row [108] a2)))
  (manyF row [82] (oneF row [102] a3))
theorem lg11 (row:List UInt8):Lg row (fg11 row) (frm 11):=by
  have b0:=Lg.beg row
  have b1:=(((b0.one [105]).re fun _ h=>h.epsl).lst.one [116]).lst
  have b2:=(b1.rep0 4 (by decide) (row.length+1))
  have b3:=((b2.alt (b2.one [108]).lst).re fun _ h=>(h.altm (fun _ h=>h) fun _=>Rm.asc2).opt)
  exact((b3.one [102]).many [82])
def fg12 (row:List UInt8):Nat→Bool:=
  let a1:=(lisF row (oneF row [119] begF))
  (manyF row [82] (oneF row [103] (lisF row (oneF row [100] a1))))
theorem lg12 (row:List UInt8):Lg row (fg12 row) (frm 12):=by
  have b0:=Lg.beg row
  have b1:=((b0.one [119]).re fun _ h=>h.epsl).lst
  exact(((b1.one [100]).lst.one [103]).many [82])
def fg13 (row:List UInt8):Nat→Bool:=
  let a1:=(oneF row [87] (oneF row [114] begF))
  let a2:=(manyF row [87] (oneF row [107] (manyF row [110] a1)))
  let a3:=(orF (manyF row [110] (oneF row [59] a2)) (manyF row [110] (oneF row [110] a2)))
  let a4:=(orF a3 (orF (manyF row [110] (oneF row [59] a1)) (manyF row [110] a1)))
  (manyF row [82] (oneF row [103] (lisF row (oneF row [100] a4))))
theorem lg13 (row:List UInt8):Lg row (fg13 row) (frm 13):=by
  have b0:=Lg.beg row
  have b1:=(((b0.one [114]).re fun _ h=>h.epsl).one [87])
  have b2:=(((b1.many [110]).one [107]).many [87])
  have b3:=((((b2.one [59]).many [110]).alt ((b2.one [110]).many [110])).re fun _ h=>(h.altm (fun _=>Rm.asc) fun _=>Rm.asc).fac)
  have b4:=((b3.alt ((((b1.one [59]).many [110]).alt (b1.many [110])).re fun _ h=>(h.altm (fun _=>Rm.asc) fun _ h=>h).fac)).re fun _ h=>(h.altm (fun _=>Rm.asc3) fun _ h=>h).fac)
  exact(((b4.one [100]).lst.one [103]).many [82])
def fg14 (row:List UInt8):Nat→Bool:=
  let a1:=(manyF row [110] (oneF row [107] (manyF row [110] (oneF row [87] (oneF row [99] begF)))))
  let a2:=(repF row 5 (row.length+1) a1)
  let a3:=(orF a2 (oneF row [84] a2))
  (manyF row [82] (oneF row [122] a3))
theorem lg14 (row:List UInt8):Lg row (fg14 row) (frm 14):=by
  have b0:=Lg.beg row
  have b1:=((((((b0.one [99]).re fun _ h=>h.epsl).one [87]).many [110]).one [107]).many [110])
  have b2:=(b1.rep0 5 (by decide) (row.length+1))
  have b3:=((b2.alt (b2.one [84])).re fun _ h=>h.opt)
  exact((b3.one [122]).many [82])
def fg15 (row:List UInt8):Nat→Bool:=
  let a1:=(repF row 6 (row.length+1) (oneF row [87] (orF begF (oneF row [40] begF))))
  let a2:=(manyF row [110] (oneF row [41] a1))
  (orF a2 (oneF row [76] a2))
theorem lg15 (row:List UInt8):Lg row (fg15 row) (frm 15):=by
  have b0:=Lg.beg row
  have b1:=(((b0.alt ((b0.one [40]).re fun _ h=>h.epsl)).one [87]).rep0 6 (by decide) (row.length+1))
  have b2:=((b1.one [41]).many [110])
  exact((b2.alt (b2.one [76])).re fun _ h=>h.opt)
def fg16 (row:List UInt8):Nat→Bool:=
  let a1:=(oneF row [41] (oneF row [40] (oneF row [87] begF)))
  (oneF row [66,85,70,72,79,67] (manyF row [110] a1))
theorem lg16 (row:List UInt8):Lg row (fg16 row) (frm 16):=by
  have b0:=Lg.beg row
  have b1:=((((b0.one [87]).re fun _ h=>h.epsl).one [40]).one [41])
  exact((b1.many [110]).one [66,85,70,72,79,67])
end Go.Proofs.YtlbfdbinaekjoaaGreatDoor
namespace Go.Proofs.YtlbfdbinaekjoaaGreatDoor
open Go.RowKit
set_option linter.unusedVariables false
set_option linter.unusedSimpArgs false
set_option maxRecDepth 100000
set_option maxHeartbeats 4000000 in
theorem form1_m (row:List UInt8) (w:World) (hl:row.length≤10000):Calls Tryz.prog 22 #[.int .i64 1,.string ⟨row.toArray⟩] w fun e w'=>e=.returned (.bool (fg1 row row.length))∧Below w.heap.size w w':=by
  have HB:=Lib.hid (Below.refl w.heap.size w)
  go_enter Tryz.func22,Tryz.ntmps22
  have u1:(row.length:Int)<(row.length:Int)+1:=by omega
  have u2:(0:Int)≤(row.length:Int):=by omega
  go_wp2_with (first
    | (go_at_call 40
       with_reducible refine(or_m row v2 v3 _ _ _ hl P2.out P3.out).mono ?_
       rintro e w4 ⟨v4,rfl,p,hb⟩
       obtain⟨g,o,c,rfl,hc⟩:=PLc.val p
       replace HB:=Lib.hid (HB.out.trans (hb.mono HB.out.size))
       clear p hb)
    | (go_at_call 41
       with_reducible refine(one_m row [76] v2 _ _ hl (by decide) P2.out).mono ?_
       rintro e w3 ⟨v3,rfl,p,hb⟩
       replace P2:=Lib.hid (P2.out.next hb)
       have P3:=Lib.hid p
       replace HB:=Lib.hid (HB.out.trans (hb.mono HB.out.size))
       clear p hb)
    | (go_at_call 39
       with_reducible refine(many_m row [110] v1 _ _ hl (by decide) P1.out).mono ?_
       rintro e w2 ⟨v2,rfl,p,hb⟩
       have P2:=Lib.hid p
       replace HB:=Lib.hid (HB.out.trans (hb.mono HB.out.size))
       clear p hb)
    | (go_at_call 38
       with_reducible refine(begin_m row _ hl).mono ?_
       rintro e w1 ⟨v1,rfl,p,hb⟩
       have P1:=Lib.hid p
       replace HB:=Lib.hid (HB.out.trans (hb.mono HB.out.size))
       clear p hb)
    | fail)
  try go_quiet (fail)
  try go_wp2_with fail
  go_ret
  first
    | exact⟨rfl,HB.out⟩
    | exact⟨rfl,below_drewN' HB.out _⟩
set_option maxHeartbeats 4000000 in
theorem form2_m (row:List UInt8) (w:World) (hl:row.length≤10000):Calls Tryz.prog 22 #[.int .i64 2,.string ⟨row.toArray⟩] w fun e w'=>e=.returned (.bool (fg2 row row.length))∧Below w.heap.size w w':=by
  have HB:=Lib.hid (Below.refl w.heap.size w)
  go_enter Tryz.func22,Tryz.ntmps22
  have u1:(row.length:Int)<(row.length:Int)+1:=by omega
  have u2:(0:Int)≤(row.length:Int):=by omega
  go_wp2_with (first
    | (go_at_call 40
       with_reducible refine(or_m row v3 v4 _ _ _ hl P3.out P4.out).mono ?_
       rintro e w5 ⟨v5,rfl,p,hb⟩
       obtain⟨g,o,c,rfl,hc⟩:=PLc.val p
       replace HB:=Lib.hid (HB.out.trans (hb.mono HB.out.size))
       clear p hb)
    | (go_at_call 43
       with_reducible refine(rsep_m row v3 _ _ hl P3.out).mono ?_
       rintro e w4 ⟨v4,rfl,p,hb⟩
       replace P3:=Lib.hid (P3.out.next hb)
       have P4:=Lib.hid p
       replace HB:=Lib.hid (HB.out.trans (hb.mono HB.out.size))
       clear p hb)
    | (go_at_call 42
       with_reducible refine(rep1_m row v2 _ _ hl P2.out).mono ?_
       rintro e w3 ⟨v3,rfl,p,hb⟩
       have P3:=Lib.hid p
       replace HB:=Lib.hid (HB.out.trans (hb.mono HB.out.size))
       clear p hb)
    | (go_at_call 41
       with_reducible refine(one_m row [65] v1 _ _ hl (by decide) P1.out).mono ?_
       rintro e w2 ⟨v2,rfl,p,hb⟩
       have P2:=Lib.hid p
       replace HB:=Lib.hid (HB.out.trans (hb.mono HB.out.size))
       clear p hb)
    | (go_at_call 38
       with_reducible refine(begin_m row _ hl).mono ?_
       rintro e w1 ⟨v1,rfl,p,hb⟩
       have P1:=Lib.hid p
       replace HB:=Lib.hid (HB.out.trans (hb.mono HB.out.size))
       clear p hb)
    | fail)
  try go_quiet (fail)
  try go_wp2_with fail
  go_ret
  first
    | exact⟨rfl,HB.out⟩
    | exact⟨rfl,below_drewN' HB.out _⟩
set_option maxHeartbeats 4000000 in
theorem form3_m (row:List UInt8) (w:World) (hl:row.length≤10000):Calls Tryz.prog 22 #[.int .i64 3,.string ⟨row.toArray⟩] w fun e w'=>e=.returned (.bool (fg3 row row.length))∧Below w.heap.size w w':=by
  have HB:=Lib.hid (Below.refl w.heap.size w)
  go_enter Tryz.func22,Tryz.ntmps22
  have u1:(row.length:Int)<(row.length:Int)+1:=by omega
  have u2:(0:Int)≤(row.length:Int):=by omega
  go_wp2_with (first
    | (go_at_call 42
       with_reducible refine(rep2_m row v2 _ _ hl P2.out).mono ?_
       rintro e w3 ⟨v3,rfl,p,hb⟩
       obtain⟨g,o,c,rfl,hc⟩:=PLc.val p
       replace HB:=Lib.hid (HB.out.trans (hb.mono HB.out.size))
       clear p hb)
    | (go_at_call 41
       with_reducible refine(one_m row [73] v1 _ _ hl (by decide) P1.out).mono ?_
       rintro e w2 ⟨v2,rfl,p,hb⟩
       have P2:=Lib.hid p
       replace HB:=Lib.hid (HB.out.trans (hb.mono HB.out.size))
       clear p hb)
    | (go_at_call 38
       with_reducible refine(begin_m row _ hl).mono ?_
       rintro e w1 ⟨v1,rfl,p,hb⟩
       have P1:=Lib.hid p
       replace HB:=Lib.hid (HB.out.trans (hb.mono HB.out.size))
       clear p hb)
    | fail)
  try go_quiet (fail)
  try go_wp2_with fail
  go_ret
  first
    | exact⟨rfl,HB.out⟩
    | exact⟨rfl,below_drewN' HB.out _⟩
set_option maxHeartbeats 4000000 in
theorem form4_m (row:List UInt8) (w:World) (hl:row.length≤10000):Calls Tryz.prog 22 #[.int .i64 4,.string ⟨row.toArray⟩] w fun e w'=>e=.returned (.bool (fg4 row row.length))∧Below w.heap.size w w':=by
  have HB:=Lib.hid (Below.refl w.heap.size w)
  go_enter Tryz.func22,Tryz.ntmps22
  have u1:(row.length:Int)<(row.length:Int)+1:=by omega
  have u2:(0:Int)≤(row.length:Int):=by omega
  go_wp2_with (first
    | (go_at_call 42
       with_reducible refine(rep3_m row v4 _ _ hl P4.out).mono ?_
       rintro e w5 ⟨v5,rfl,p,hb⟩
       obtain⟨g,o,c,rfl,hc⟩:=PLc.val p
       replace HB:=Lib.hid (HB.out.trans (hb.mono HB.out.size))
       clear p hb)
    | (go_at_call 41
       with_reducible refine(one_m row [83,66,85,70,72,79,67,78] v3 _ _ hl (by decide) P3.out).mono ?_
       rintro e w4 ⟨v4,rfl,p,hb⟩
       have P4:=Lib.hid p
       replace HB:=Lib.hid (HB.out.trans (hb.mono HB.out.size))
       clear p hb)
    | (go_at_call 40
       with_reducible refine(or_m row v1 v2 _ _ _ hl P1.out P2.out).mono ?_
       rintro e w3 ⟨v3,rfl,p,hb⟩
       have P3:=Lib.hid p
       replace HB:=Lib.hid (HB.out.trans (hb.mono HB.out.size))
       clear p hb)
    | (go_at_call 41
       with_reducible refine(one_m row [33] v1 _ _ hl (by decide) P1.out).mono ?_
       rintro e w2 ⟨v2,rfl,p,hb⟩
       replace P1:=Lib.hid (P1.out.next hb)
       have P2:=Lib.hid p
       replace HB:=Lib.hid (HB.out.trans (hb.mono HB.out.size))
       clear p hb)
    | (go_at_call 38
       with_reducible refine(begin_m row _ hl).mono ?_
       rintro e w1 ⟨v1,rfl,p,hb⟩
       have P1:=Lib.hid p
       replace HB:=Lib.hid (HB.out.trans (hb.mono HB.out.size))
       clear p hb)
    | fail)
  try go_quiet (fail)
  try go_wp2_with fail
  go_ret
  first
    | exact⟨rfl,HB.out⟩
    | exact⟨rfl,below_drewN' HB.out _⟩
set_option maxHeartbeats 4000000 in
theorem form5_m (row:List UInt8) (w:World) (hl:row.length≤10000) (hne:row≠[]):Calls Tryz.prog 22 #[.int .i64 5,.string ⟨row.toArray⟩] w fun e w'=>e=.returned (.bool (fg5 row row.length))∧Below w.heap.size w w':=by
  have u0:row.isEmpty=false:=by
    cases row with
    | nil=>exact absurd rfl hne
    | cons=>rfl
  have HB:=Lib.hid (Below.refl w.heap.size w)
  go_enter Tryz.func22,Tryz.ntmps22
  have u1:(row.length:Int)<(row.length:Int)+1:=by omega
  have u2:(0:Int)≤(row.length:Int):=by omega
  go_wp2_with (first
    | (go_at_call 40
       with_reducible refine(or_m row v2 v4 _ _ _ hl P2.out P4.out).mono ?_
       rintro e w5 ⟨v5,rfl,p,hb⟩
       obtain⟨g,o,c,rfl,hc⟩:=PLc.val p
       replace HB:=Lib.hid (HB.out.trans (hb.mono HB.out.size))
       clear p hb)
    | (go_at_call 39
       with_reducible refine(many_m row [87,82] v3 _ _ hl (by decide) P3.out).mono ?_
       rintro e w4 ⟨v4,rfl,p,hb⟩
       replace P2:=Lib.hid (P2.out.next hb)
       have P4:=Lib.hid p
       replace HB:=Lib.hid (HB.out.trans (hb.mono HB.out.size))
       clear p hb)
    | (go_at_call 41
       with_reducible refine(one_m row [87] v2 _ _ hl (by decide) P2.out).mono ?_
       rintro e w3 ⟨v3,rfl,p,hb⟩
       replace P2:=Lib.hid (P2.out.next hb)
       have P3:=Lib.hid p
       replace HB:=Lib.hid (HB.out.trans (hb.mono HB.out.size))
       clear p hb)
    | (go_at_call 39
       with_reducible refine(many_m row [88,82] v1 _ _ hl (by decide) P1.out).mono ?_
       rintro e w2 ⟨v2,rfl,p,hb⟩
       have P2:=Lib.hid p
       replace HB:=Lib.hid (HB.out.trans (hb.mono HB.out.size))
       clear p hb)
    | (go_at_call 38
       with_reducible refine(begin_m row _ hl).mono ?_
       rintro e w1 ⟨v1,rfl,p,hb⟩
       have P1:=Lib.hid p
       replace HB:=Lib.hid (HB.out.trans (hb.mono HB.out.size))
       clear p hb)
    | fail)
  try go_quiet (fail)
  try go_wp2_with fail
  go_ret
  first
    | exact⟨rfl,HB.out⟩
    | exact⟨rfl,below_drewN' HB.out _⟩
set_option maxHeartbeats 4000000 in
theorem form8_m (row:List UInt8) (w:World) (hl:row.length≤10000):Calls Tryz.prog 22 #[.int .i64 8,.string ⟨row.toArray⟩] w fun e w'=>e=.returned (.bool (fg8 row row.length))∧Below w.heap.size w w':=by
  have HB:=Lib.hid (Below.refl w.heap.size w)
  go_enter Tryz.func22,Tryz.ntmps22
  have u1:(row.length:Int)<(row.length:Int)+1:=by omega
  have u2:(0:Int)≤(row.length:Int):=by omega
  go_wp2_with (first
    | (go_at_call 41
       with_reducible refine(one_m row [87] v4 _ _ hl (by decide) P4.out).mono ?_
       rintro e w5 ⟨v5,rfl,p,hb⟩
       obtain⟨g,o,c,rfl,hc⟩:=PLc.val p
       replace HB:=Lib.hid (HB.out.trans (hb.mono HB.out.size))
       clear p hb)
    | (go_at_call 41
       with_reducible refine(one_m row [60] v3 _ _ hl (by decide) P3.out).mono ?_
       rintro e w4 ⟨v4,rfl,p,hb⟩
       have P4:=Lib.hid p
       replace HB:=Lib.hid (HB.out.trans (hb.mono HB.out.size))
       clear p hb)
    | (go_at_call 40
       with_reducible refine(or_m row v1 v2 _ _ _ hl P1.out P2.out).mono ?_
       rintro e w3 ⟨v3,rfl,p,hb⟩
       have P3:=Lib.hid p
       replace HB:=Lib.hid (HB.out.trans (hb.mono HB.out.size))
       clear p hb)
    | (go_at_call 41
       with_reducible refine(one_m row [35] v1 _ _ hl (by decide) P1.out).mono ?_
       rintro e w2 ⟨v2,rfl,p,hb⟩
       replace P1:=Lib.hid (P1.out.next hb)
       have P2:=Lib.hid p
       replace HB:=Lib.hid (HB.out.trans (hb.mono HB.out.size))
       clear p hb)
    | (go_at_call 38
       with_reducible refine(begin_m row _ hl).mono ?_
       rintro e w1 ⟨v1,rfl,p,hb⟩
       have P1:=Lib.hid p
       replace HB:=Lib.hid (HB.out.trans (hb.mono HB.out.size))
       clear p hb)
    | fail)
  try go_quiet (fail)
  try go_wp2_with fail
  go_ret
  first
    | exact⟨rfl,HB.out⟩
    | exact⟨rfl,below_drewN' HB.out _⟩
set_option maxHeartbeats 4000000 in
theorem form9_m (row:List UInt8) (w:World) (hl:row.length≤10000):Calls Tryz.prog 22 #[.int .i64 9,.string ⟨row.toArray⟩] w fun e w'=>e=.returned (.bool (fg9 row row.length))∧Below w.heap.size w w':=by
  have HB:=Lib.hid (Below.refl w.heap.size w)
  go_enter Tryz.func22,Tryz.ntmps22
  have u1:(row.length:Int)<(row.length:Int)+1:=by omega
  have u2:(0:Int)≤(row.length:Int):=by omega
  go_wp2_with (first
    | (go_at_call 39
       with_reducible refine(many_m row [82] v4 _ _ hl (by decide) P4.out).mono ?_
       rintro e w5 ⟨v5,rfl,p,hb⟩
       obtain⟨g,o,c,rfl,hc⟩:=PLc.val p
       replace HB:=Lib.hid (HB.out.trans (hb.mono HB.out.size))
       clear p hb)
    | (go_at_call 41
       with_reducible refine(one_m row [125] v3 _ _ hl (by decide) P3.out).mono ?_
       rintro e w4 ⟨v4,rfl,p,hb⟩
       have P4:=Lib.hid p
       replace HB:=Lib.hid (HB.out.trans (hb.mono HB.out.size))
       clear p hb)
    | (go_at_call 44
       with_reducible refine(rlist_m row v2 _ _ hl P2.out).mono ?_
       rintro e w3 ⟨v3,rfl,p,hb⟩
       have P3:=Lib.hid p
       replace HB:=Lib.hid (HB.out.trans (hb.mono HB.out.size))
       clear p hb)
    | (go_at_call 41
       with_reducible refine(one_m row [123] v1 _ _ hl (by decide) P1.out).mono ?_
       rintro e w2 ⟨v2,rfl,p,hb⟩
       have P2:=Lib.hid p
       replace HB:=Lib.hid (HB.out.trans (hb.mono HB.out.size))
       clear p hb)
    | (go_at_call 38
       with_reducible refine(begin_m row _ hl).mono ?_
       rintro e w1 ⟨v1,rfl,p,hb⟩
       have P1:=Lib.hid p
       replace HB:=Lib.hid (HB.out.trans (hb.mono HB.out.size))
       clear p hb)
    | fail)
  try go_quiet (fail)
  try go_wp2_with fail
  go_ret
  first
    | exact⟨rfl,HB.out⟩
    | exact⟨rfl,below_drewN' HB.out _⟩
set_option maxHeartbeats 4000000 in
theorem form10_m (row:List UInt8) (w:World) (hl:row.length≤10000):Calls Tryz.prog 22 #[.int .i64 10,.string ⟨row.toArray⟩] w fun e w'=>e=.returned (.bool (fg10 row row.length))∧Below w.heap.size w w':=by
  have HB:=Lib.hid (Below.refl w.heap.size w)
  go_enter Tryz.func22,Tryz.ntmps22
  have u1:(row.length:Int)<(row.length:Int)+1:=by omega
  have u2:(0:Int)≤(row.length:Int):=by omega
  go_wp2_with (first
    | (go_at_call 39
       with_reducible refine(many_m row [82] v4 _ _ hl (by decide) P4.out).mono ?_
       rintro e w5 ⟨v5,rfl,p,hb⟩
       obtain⟨g,o,c,rfl,hc⟩:=PLc.val p
       replace HB:=Lib.hid (HB.out.trans (hb.mono HB.out.size))
       clear p hb)
    | (go_at_call 41
       with_reducible refine(one_m row [41] v3 _ _ hl (by decide) P3.out).mono ?_
       rintro e w4 ⟨v4,rfl,p,hb⟩
       have P4:=Lib.hid p
       replace HB:=Lib.hid (HB.out.trans (hb.mono HB.out.size))
       clear p hb)
    | (go_at_call 44
       with_reducible refine(rlist_m row v2 _ _ hl P2.out).mono ?_
       rintro e w3 ⟨v3,rfl,p,hb⟩
       have P3:=Lib.hid p
       replace HB:=Lib.hid (HB.out.trans (hb.mono HB.out.size))
       clear p hb)
    | (go_at_call 41
       with_reducible refine(one_m row [40] v1 _ _ hl (by decide) P1.out).mono ?_
       rintro e w2 ⟨v2,rfl,p,hb⟩
       have P2:=Lib.hid p
       replace HB:=Lib.hid (HB.out.trans (hb.mono HB.out.size))
       clear p hb)
    | (go_at_call 38
       with_reducible refine(begin_m row _ hl).mono ?_
       rintro e w1 ⟨v1,rfl,p,hb⟩
       have P1:=Lib.hid p
       replace HB:=Lib.hid (HB.out.trans (hb.mono HB.out.size))
       clear p hb)
    | fail)
  try go_quiet (fail)
  try go_wp2_with fail
  go_ret
  first
    | exact⟨rfl,HB.out⟩
    | exact⟨rfl,below_drewN' HB.out _⟩
set_option maxHeartbeats 4000000 in
theorem form11_m (row:List UInt8) (w:World) (hl:row.length≤10000):Calls Tryz.prog 22 #[.int .i64 11,.string ⟨row.toArray⟩] w fun e w'=>e=.returned (.bool (fg11 row row.length))∧Below w.heap.size w w':=by
  have HB:=Lib.hid (Below.refl w.heap.size w)
  go_enter Tryz.func22,Tryz.ntmps22
  have u1:(row.length:Int)<(row.length:Int)+1:=by omega
  have u2:(0:Int)≤(row.length:Int):=by omega
  go_wp2_with (first
    | (go_at_call 39
       with_reducible refine(many_m row [82] v10 _ _ hl (by decide) P10.out).mono ?_
       rintro e w11 ⟨v11,rfl,p,hb⟩
       obtain⟨g,o,c,rfl,hc⟩:=PLc.val p
       replace HB:=Lib.hid (HB.out.trans (hb.mono HB.out.size))
       clear p hb)
    | (go_at_call 41
       with_reducible refine(one_m row [102] v9 _ _ hl (by decide) P9.out).mono ?_
       rintro e w10 ⟨v10,rfl,p,hb⟩
       have P10:=Lib.hid p
       replace HB:=Lib.hid (HB.out.trans (hb.mono HB.out.size))
       clear p hb)
    | (go_at_call 40
       with_reducible refine(or_m row v6 v8 _ _ _ hl P6.out P8.out).mono ?_
       rintro e w9 ⟨v9,rfl,p,hb⟩
       have P9:=Lib.hid p
       replace HB:=Lib.hid (HB.out.trans (hb.mono HB.out.size))
       clear p hb)
    | (go_at_call 44
       with_reducible refine(rlist_m row v7 _ _ hl P7.out).mono ?_
       rintro e w8 ⟨v8,rfl,p,hb⟩
       replace P6:=Lib.hid (P6.out.next hb)
       have P8:=Lib.hid p
       replace HB:=Lib.hid (HB.out.trans (hb.mono HB.out.size))
       clear p hb)
    | (go_at_call 41
       with_reducible refine(one_m row [108] v6 _ _ hl (by decide) P6.out).mono ?_
       rintro e w7 ⟨v7,rfl,p,hb⟩
       replace P6:=Lib.hid (P6.out.next hb)
       have P7:=Lib.hid p
       replace HB:=Lib.hid (HB.out.trans (hb.mono HB.out.size))
       clear p hb)
    | (go_at_call 42
       with_reducible refine(rep4_m row v5 _ _ hl P5.out).mono ?_
       rintro e w6 ⟨v6,rfl,p,hb⟩
       have P6:=Lib.hid p
       replace HB:=Lib.hid (HB.out.trans (hb.mono HB.out.size))
       clear p hb)
    | (go_at_call 44
       with_reducible refine(rlist_m row v4 _ _ hl P4.out).mono ?_
       rintro e w5 ⟨v5,rfl,p,hb⟩
       have P5:=Lib.hid p
       replace HB:=Lib.hid (HB.out.trans (hb.mono HB.out.size))
       clear p hb)
    | (go_at_call 41
       with_reducible refine(one_m row [116] v3 _ _ hl (by decide) P3.out).mono ?_
       rintro e w4 ⟨v4,rfl,p,hb⟩
       have P4:=Lib.hid p
       replace HB:=Lib.hid (HB.out.trans (hb.mono HB.out.size))
       clear p hb)
    | (go_at_call 44
       with_reducible refine(rlist_m row v2 _ _ hl P2.out).mono ?_
       rintro e w3 ⟨v3,rfl,p,hb⟩
       have P3:=Lib.hid p
       replace HB:=Lib.hid (HB.out.trans (hb.mono HB.out.size))
       clear p hb)
    | (go_at_call 41
       with_reducible refine(one_m row [105] v1 _ _ hl (by decide) P1.out).mono ?_
       rintro e w2 ⟨v2,rfl,p,hb⟩
       have P2:=Lib.hid p
       replace HB:=Lib.hid (HB.out.trans (hb.mono HB.out.size))
       clear p hb)
    | (go_at_call 38
       with_reducible refine(begin_m row _ hl).mono ?_
       rintro e w1 ⟨v1,rfl,p,hb⟩
       have P1:=Lib.hid p
       replace HB:=Lib.hid (HB.out.trans (hb.mono HB.out.size))
       clear p hb)
    | fail)
  try go_quiet (fail)
  try go_wp2_with fail
  go_ret
  first
    | exact⟨rfl,HB.out⟩
    | exact⟨rfl,below_drewN' HB.out _⟩
set_option maxHeartbeats 4000000 in
theorem form12_m (row:List UInt8) (w:World) (hl:row.length≤10000):Calls Tryz.prog 22 #[.int .i64 12,.string ⟨row.toArray⟩] w fun e w'=>e=.returned (.bool (fg12 row row.length))∧Below w.heap.size w w':=by
  have HB:=Lib.hid (Below.refl w.heap.size w)
  go_enter Tryz.func22,Tryz.ntmps22
  have u1:(row.length:Int)<(row.length:Int)+1:=by omega
  have u2:(0:Int)≤(row.length:Int):=by omega
  go_wp2_with (first
    | (go_at_call 39
       with_reducible refine(many_m row [82] v6 _ _ hl (by decide) P6.out).mono ?_
       rintro e w7 ⟨v7,rfl,p,hb⟩
       obtain⟨g,o,c,rfl,hc⟩:=PLc.val p
       replace HB:=Lib.hid (HB.out.trans (hb.mono HB.out.size))
       clear p hb)
    | (go_at_call 41
       with_reducible refine(one_m row [103] v5 _ _ hl (by decide) P5.out).mono ?_
       rintro e w6 ⟨v6,rfl,p,hb⟩
       have P6:=Lib.hid p
       replace HB:=Lib.hid (HB.out.trans (hb.mono HB.out.size))
       clear p hb)
    | (go_at_call 44
       with_reducible refine(rlist_m row v4 _ _ hl P4.out).mono ?_
       rintro e w5 ⟨v5,rfl,p,hb⟩
       have P5:=Lib.hid p
       replace HB:=Lib.hid (HB.out.trans (hb.mono HB.out.size))
       clear p hb)
    | (go_at_call 41
       with_reducible refine(one_m row [100] v3 _ _ hl (by decide) P3.out).mono ?_
       rintro e w4 ⟨v4,rfl,p,hb⟩
       have P4:=Lib.hid p
       replace HB:=Lib.hid (HB.out.trans (hb.mono HB.out.size))
       clear p hb)
    | (go_at_call 44
       with_reducible refine(rlist_m row v2 _ _ hl P2.out).mono ?_
       rintro e w3 ⟨v3,rfl,p,hb⟩
       have P3:=Lib.hid p
       replace HB:=Lib.hid (HB.out.trans (hb.mono HB.out.size))
       clear p hb)
    | (go_at_call 41
       with_reducible refine(one_m row [119] v1 _ _ hl (by decide) P1.out).mono ?_
       rintro e w2 ⟨v2,rfl,p,hb⟩
       have P2:=Lib.hid p
       replace HB:=Lib.hid (HB.out.trans (hb.mono HB.out.size))
       clear p hb)
    | (go_at_call 38
       with_reducible refine(begin_m row _ hl).mono ?_
       rintro e w1 ⟨v1,rfl,p,hb⟩
       have P1:=Lib.hid p
       replace HB:=Lib.hid (HB.out.trans (hb.mono HB.out.size))
       clear p hb)
    | fail)
  try go_quiet (fail)
  try go_wp2_with fail
  go_ret
  first
    | exact⟨rfl,HB.out⟩
    | exact⟨rfl,below_drewN' HB.out _⟩
set_option maxHeartbeats 4000000 in
theorem form13_m (row:List UInt8) (w:World) (hl:row.length≤10000):Calls Tryz.prog 22 #[.int .i64 13,.string ⟨row.toArray⟩] w fun e w'=>e=.returned (.bool (fg13 row row.length))∧Below w.heap.size w w':=by
  have HB:=Lib.hid (Below.refl w.heap.size w)
  go_enter Tryz.func22,Tryz.ntmps22
  have u1:(row.length:Int)<(row.length:Int)+1:=by omega
  have u2:(0:Int)≤(row.length:Int):=by omega
  go_wp2_with (first
    | (go_at_call 39
       with_reducible refine(many_m row [82] v19 _ _ hl (by decide) P19.out).mono ?_
       rintro e w20 ⟨v20,rfl,p,hb⟩
       obtain⟨g,o,c,rfl,hc⟩:=PLc.val p
       replace HB:=Lib.hid (HB.out.trans (hb.mono HB.out.size))
       clear p hb)
    | (go_at_call 41
       with_reducible refine(one_m row [103] v18 _ _ hl (by decide) P18.out).mono ?_
       rintro e w19 ⟨v19,rfl,p,hb⟩
       have P19:=Lib.hid p
       replace HB:=Lib.hid (HB.out.trans (hb.mono HB.out.size))
       clear p hb)
    | (go_at_call 44
       with_reducible refine(rlist_m row v17 _ _ hl P17.out).mono ?_
       rintro e w18 ⟨v18,rfl,p,hb⟩
       have P18:=Lib.hid p
       replace HB:=Lib.hid (HB.out.trans (hb.mono HB.out.size))
       clear p hb)
    | (go_at_call 41
       with_reducible refine(one_m row [100] v16 _ _ hl (by decide) P16.out).mono ?_
       rintro e w17 ⟨v17,rfl,p,hb⟩
       have P17:=Lib.hid p
       replace HB:=Lib.hid (HB.out.trans (hb.mono HB.out.size))
       clear p hb)
    | (go_at_call 40
       with_reducible refine(or_m row v11 v15 _ _ _ hl P11.out P15.out).mono ?_
       rintro e w16 ⟨v16,rfl,p,hb⟩
       have P16:=Lib.hid p
       replace HB:=Lib.hid (HB.out.trans (hb.mono HB.out.size))
       clear p hb)
    | (go_at_call 40
       with_reducible refine(or_m row v13 v14 _ _ _ hl P13.out P14.out).mono ?_
       rintro e w15 ⟨v15,rfl,p,hb⟩
       replace P11:=Lib.hid (P11.out.next hb)
       have P15:=Lib.hid p
       replace HB:=Lib.hid (HB.out.trans (hb.mono HB.out.size))
       clear p hb)
    | (go_at_call 39
       with_reducible refine(many_m row [110] v3 _ _ hl (by decide) P3.out).mono ?_
       rintro e w14 ⟨v14,rfl,p,hb⟩
       replace P11:=Lib.hid (P11.out.next hb)
       replace P13:=Lib.hid (P13.out.next hb)
       have P14:=Lib.hid p
       replace HB:=Lib.hid (HB.out.trans (hb.mono HB.out.size))
       clear p hb)
    | (go_at_call 39
       with_reducible refine(many_m row [110] v12 _ _ hl (by decide) P12.out).mono ?_
       rintro e w13 ⟨v13,rfl,p,hb⟩
       replace P11:=Lib.hid (P11.out.next hb)
       replace P3:=Lib.hid (P3.out.next hb)
       have P13:=Lib.hid p
       replace HB:=Lib.hid (HB.out.trans (hb.mono HB.out.size))
       clear p hb)
    | (go_at_call 41
       with_reducible refine(one_m row [59] v3 _ _ hl (by decide) P3.out).mono ?_
       rintro e w12 ⟨v12,rfl,p,hb⟩
       replace P11:=Lib.hid (P11.out.next hb)
       replace P3:=Lib.hid (P3.out.next hb)
       have P12:=Lib.hid p
       replace HB:=Lib.hid (HB.out.trans (hb.mono HB.out.size))
       clear p hb)
    | (go_at_call 40
       with_reducible refine(or_m row v8 v10 _ _ _ hl P8.out P10.out).mono ?_
       rintro e w11 ⟨v11,rfl,p,hb⟩
       replace P3:=Lib.hid (P3.out.next hb)
       have P11:=Lib.hid p
       replace HB:=Lib.hid (HB.out.trans (hb.mono HB.out.size))
       clear p hb)
    | (go_at_call 39
       with_reducible refine(many_m row [110] v9 _ _ hl (by decide) P9.out).mono ?_
       rintro e w10 ⟨v10,rfl,p,hb⟩
       replace P3:=Lib.hid (P3.out.next hb)
       replace P8:=Lib.hid (P8.out.next hb)
       have P10:=Lib.hid p
       replace HB:=Lib.hid (HB.out.trans (hb.mono HB.out.size))
       clear p hb)
    | (go_at_call 41
       with_reducible refine(one_m row [110] v6 _ _ hl (by decide) P6.out).mono ?_
       rintro e w9 ⟨v9,rfl,p,hb⟩
       replace P3:=Lib.hid (P3.out.next hb)
       replace P8:=Lib.hid (P8.out.next hb)
       have P9:=Lib.hid p
       replace HB:=Lib.hid (HB.out.trans (hb.mono HB.out.size))
       clear p hb)
    | (go_at_call 39
       with_reducible refine(many_m row [110] v7 _ _ hl (by decide) P7.out).mono ?_
       rintro e w8 ⟨v8,rfl,p,hb⟩
       replace P3:=Lib.hid (P3.out.next hb)
       replace P6:=Lib.hid (P6.out.next hb)
       have P8:=Lib.hid p
       replace HB:=Lib.hid (HB.out.trans (hb.mono HB.out.size))
       clear p hb)
    | (go_at_call 41
       with_reducible refine(one_m row [59] v6 _ _ hl (by decide) P6.out).mono ?_
       rintro e w7 ⟨v7,rfl,p,hb⟩
       replace P3:=Lib.hid (P3.out.next hb)
       replace P6:=Lib.hid (P6.out.next hb)
       have P7:=Lib.hid p
       replace HB:=Lib.hid (HB.out.trans (hb.mono HB.out.size))
       clear p hb)
    | (go_at_call 39
       with_reducible refine(many_m row [87] v5 _ _ hl (by decide) P5.out).mono ?_
       rintro e w6 ⟨v6,rfl,p,hb⟩
       replace P3:=Lib.hid (P3.out.next hb)
       have P6:=Lib.hid p
       replace HB:=Lib.hid (HB.out.trans (hb.mono HB.out.size))
       clear p hb)
    | (go_at_call 41
       with_reducible refine(one_m row [107] v4 _ _ hl (by decide) P4.out).mono ?_
       rintro e w5 ⟨v5,rfl,p,hb⟩
       replace P3:=Lib.hid (P3.out.next hb)
       have P5:=Lib.hid p
       replace HB:=Lib.hid (HB.out.trans (hb.mono HB.out.size))
       clear p hb)
    | (go_at_call 39
       with_reducible refine(many_m row [110] v3 _ _ hl (by decide) P3.out).mono ?_
       rintro e w4 ⟨v4,rfl,p,hb⟩
       replace P3:=Lib.hid (P3.out.next hb)
       have P4:=Lib.hid p
       replace HB:=Lib.hid (HB.out.trans (hb.mono HB.out.size))
       clear p hb)
    | (go_at_call 41
       with_reducible refine(one_m row [87] v2 _ _ hl (by decide) P2.out).mono ?_
       rintro e w3 ⟨v3,rfl,p,hb⟩
       have P3:=Lib.hid p
       replace HB:=Lib.hid (HB.out.trans (hb.mono HB.out.size))
       clear p hb)
    | (go_at_call 41
       with_reducible refine(one_m row [114] v1 _ _ hl (by decide) P1.out).mono ?_
       rintro e w2 ⟨v2,rfl,p,hb⟩
       have P2:=Lib.hid p
       replace HB:=Lib.hid (HB.out.trans (hb.mono HB.out.size))
       clear p hb)
    | (go_at_call 38
       with_reducible refine(begin_m row _ hl).mono ?_
       rintro e w1 ⟨v1,rfl,p,hb⟩
       have P1:=Lib.hid p
       replace HB:=Lib.hid (HB.out.trans (hb.mono HB.out.size))
       clear p hb)
    | fail)
  try go_quiet (fail)
  try go_wp2_with fail
  go_ret
  first
    | exact⟨rfl,HB.out⟩
    | exact⟨rfl,below_drewN' HB.out _⟩
set_option maxHeartbeats 4000000 in
theorem form14_m (row:List UInt8) (w:World) (hl:row.length≤10000):Calls Tryz.prog 22 #[.int .i64 14,.string ⟨row.toArray⟩] w fun e w'=>e=.returned (.bool (fg14 row row.length))∧Below w.heap.size w w':=by
  have HB:=Lib.hid (Below.refl w.heap.size w)
  go_enter Tryz.func22,Tryz.ntmps22
  have u1:(row.length:Int)<(row.length:Int)+1:=by omega
  have u2:(0:Int)≤(row.length:Int):=by omega
  go_wp2_with (first
    | (go_at_call 39
       with_reducible refine(many_m row [82] v10 _ _ hl (by decide) P10.out).mono ?_
       rintro e w11 ⟨v11,rfl,p,hb⟩
       obtain⟨g,o,c,rfl,hc⟩:=PLc.val p
       replace HB:=Lib.hid (HB.out.trans (hb.mono HB.out.size))
       clear p hb)
    | (go_at_call 41
       with_reducible refine(one_m row [122] v9 _ _ hl (by decide) P9.out).mono ?_
       rintro e w10 ⟨v10,rfl,p,hb⟩
       have P10:=Lib.hid p
       replace HB:=Lib.hid (HB.out.trans (hb.mono HB.out.size))
       clear p hb)
    | (go_at_call 40
       with_reducible refine(or_m row v7 v8 _ _ _ hl P7.out P8.out).mono ?_
       rintro e w9 ⟨v9,rfl,p,hb⟩
       have P9:=Lib.hid p
       replace HB:=Lib.hid (HB.out.trans (hb.mono HB.out.size))
       clear p hb)
    | (go_at_call 41
       with_reducible refine(one_m row [84] v7 _ _ hl (by decide) P7.out).mono ?_
       rintro e w8 ⟨v8,rfl,p,hb⟩
       replace P7:=Lib.hid (P7.out.next hb)
       have P8:=Lib.hid p
       replace HB:=Lib.hid (HB.out.trans (hb.mono HB.out.size))
       clear p hb)
    | (go_at_call 42
       with_reducible refine(rep5_m row v6 _ _ hl P6.out).mono ?_
       rintro e w7 ⟨v7,rfl,p,hb⟩
       have P7:=Lib.hid p
       replace HB:=Lib.hid (HB.out.trans (hb.mono HB.out.size))
       clear p hb)
    | (go_at_call 39
       with_reducible refine(many_m row [110] v5 _ _ hl (by decide) P5.out).mono ?_
       rintro e w6 ⟨v6,rfl,p,hb⟩
       have P6:=Lib.hid p
       replace HB:=Lib.hid (HB.out.trans (hb.mono HB.out.size))
       clear p hb)
    | (go_at_call 41
       with_reducible refine(one_m row [107] v4 _ _ hl (by decide) P4.out).mono ?_
       rintro e w5 ⟨v5,rfl,p,hb⟩
       have P5:=Lib.hid p
       replace HB:=Lib.hid (HB.out.trans (hb.mono HB.out.size))
       clear p hb)
    | (go_at_call 39
       with_reducible refine(many_m row [110] v3 _ _ hl (by decide) P3.out).mono ?_
       rintro e w4 ⟨v4,rfl,p,hb⟩
       have P4:=Lib.hid p
       replace HB:=Lib.hid (HB.out.trans (hb.mono HB.out.size))
       clear p hb)
    | (go_at_call 41
       with_reducible refine(one_m row [87] v2 _ _ hl (by decide) P2.out).mono ?_
       rintro e w3 ⟨v3,rfl,p,hb⟩
       have P3:=Lib.hid p
       replace HB:=Lib.hid (HB.out.trans (hb.mono HB.out.size))
       clear p hb)
    | (go_at_call 41
       with_reducible refine(one_m row [99] v1 _ _ hl (by decide) P1.out).mono ?_
       rintro e w2 ⟨v2,rfl,p,hb⟩
       have P2:=Lib.hid p
       replace HB:=Lib.hid (HB.out.trans (hb.mono HB.out.size))
       clear p hb)
    | (go_at_call 38
       with_reducible refine(begin_m row _ hl).mono ?_
       rintro e w1 ⟨v1,rfl,p,hb⟩
       have P1:=Lib.hid p
       replace HB:=Lib.hid (HB.out.trans (hb.mono HB.out.size))
       clear p hb)
    | fail)
  try go_quiet (fail)
  try go_wp2_with fail
  go_ret
  first
    | exact⟨rfl,HB.out⟩
    | exact⟨rfl,below_drewN' HB.out _⟩
set_option maxHeartbeats 4000000 in
theorem form15_m (row:List UInt8) (w:World) (hl:row.length≤10000):Calls Tryz.prog 22 #[.int .i64 15,.string ⟨row.toArray⟩] w fun e w'=>e=.returned (.bool (fg15 row row.length))∧Below w.heap.size w w':=by
  have HB:=Lib.hid (Below.refl w.heap.size w)
  go_enter Tryz.func22,Tryz.ntmps22
  have u1:(row.length:Int)<(row.length:Int)+1:=by omega
  have u2:(0:Int)≤(row.length:Int):=by omega
  go_wp2_with (first
    | (go_at_call 40
       with_reducible refine(or_m row v7 v8 _ _ _ hl P7.out P8.out).mono ?_
       rintro e w9 ⟨v9,rfl,p,hb⟩
       obtain⟨g,o,c,rfl,hc⟩:=PLc.val p
       replace HB:=Lib.hid (HB.out.trans (hb.mono HB.out.size))
       clear p hb)
    | (go_at_call 41
       with_reducible refine(one_m row [76] v7 _ _ hl (by decide) P7.out).mono ?_
       rintro e w8 ⟨v8,rfl,p,hb⟩
       replace P7:=Lib.hid (P7.out.next hb)
       have P8:=Lib.hid p
       replace HB:=Lib.hid (HB.out.trans (hb.mono HB.out.size))
       clear p hb)
    | (go_at_call 39
       with_reducible refine(many_m row [110] v6 _ _ hl (by decide) P6.out).mono ?_
       rintro e w7 ⟨v7,rfl,p,hb⟩
       have P7:=Lib.hid p
       replace HB:=Lib.hid (HB.out.trans (hb.mono HB.out.size))
       clear p hb)
    | (go_at_call 41
       with_reducible refine(one_m row [41] v5 _ _ hl (by decide) P5.out).mono ?_
       rintro e w6 ⟨v6,rfl,p,hb⟩
       have P6:=Lib.hid p
       replace HB:=Lib.hid (HB.out.trans (hb.mono HB.out.size))
       clear p hb)
    | (go_at_call 42
       with_reducible refine(rep6_m row v4 _ _ hl P4.out).mono ?_
       rintro e w5 ⟨v5,rfl,p,hb⟩
       have P5:=Lib.hid p
       replace HB:=Lib.hid (HB.out.trans (hb.mono HB.out.size))
       clear p hb)
    | (go_at_call 41
       with_reducible refine(one_m row [87] v3 _ _ hl (by decide) P3.out).mono ?_
       rintro e w4 ⟨v4,rfl,p,hb⟩
       have P4:=Lib.hid p
       replace HB:=Lib.hid (HB.out.trans (hb.mono HB.out.size))
       clear p hb)
    | (go_at_call 40
       with_reducible refine(or_m row v1 v2 _ _ _ hl P1.out P2.out).mono ?_
       rintro e w3 ⟨v3,rfl,p,hb⟩
       have P3:=Lib.hid p
       replace HB:=Lib.hid (HB.out.trans (hb.mono HB.out.size))
       clear p hb)
    | (go_at_call 41
       with_reducible refine(one_m row [40] v1 _ _ hl (by decide) P1.out).mono ?_
       rintro e w2 ⟨v2,rfl,p,hb⟩
       replace P1:=Lib.hid (P1.out.next hb)
       have P2:=Lib.hid p
       replace HB:=Lib.hid (HB.out.trans (hb.mono HB.out.size))
       clear p hb)
    | (go_at_call 38
       with_reducible refine(begin_m row _ hl).mono ?_
       rintro e w1 ⟨v1,rfl,p,hb⟩
       have P1:=Lib.hid p
       replace HB:=Lib.hid (HB.out.trans (hb.mono HB.out.size))
       clear p hb)
    | fail)
  try go_quiet (fail)
  try go_wp2_with fail
  go_ret
  first
    | exact⟨rfl,HB.out⟩
    | exact⟨rfl,below_drewN' HB.out _⟩
set_option maxHeartbeats 4000000 in
theorem form16_m (row:List UInt8) (w:World) (hl:row.length≤10000):Calls Tryz.prog 22 #[.int .i64 16,.string ⟨row.toArray⟩] w fun e w'=>e=.returned (.bool (fg16 row row.length))∧Below w.heap.size w w':=by
  have HB:=Lib.hid (Below.refl w.heap.size w)
  go_enter Tryz.func22,Tryz.ntmps22
  have u1:(row.length:Int)<(row.length:Int)+1:=by omega
  have u2:(0:Int)≤(row.length:Int):=by omega
  go_wp2_with (first
    | (go_at_call 41
       with_reducible refine(one_m row [66,85,70,72,79,67] v5 _ _ hl (by decide) P5.out).mono ?_
       rintro e w6 ⟨v6,rfl,p,hb⟩
       obtain⟨g,o,c,rfl,hc⟩:=PLc.val p
       replace HB:=Lib.hid (HB.out.trans (hb.mono HB.out.size))
       clear p hb)
    | (go_at_call 39
       with_reducible refine(many_m row [110] v4 _ _ hl (by decide) P4.out).mono ?_
       rintro e w5 ⟨v5,rfl,p,hb⟩
       have P5:=Lib.hid p
       replace HB:=Lib.hid (HB.out.trans (hb.mono HB.out.size))
       clear p hb)
    | (go_at_call 41
       with_reducible refine(one_m row [41] v3 _ _ hl (by decide) P3.out).mono ?_
       rintro e w4 ⟨v4,rfl,p,hb⟩
       have P4:=Lib.hid p
       replace HB:=Lib.hid (HB.out.trans (hb.mono HB.out.size))
       clear p hb)
    | (go_at_call 41
       with_reducible refine(one_m row [40] v2 _ _ hl (by decide) P2.out).mono ?_
       rintro e w3 ⟨v3,rfl,p,hb⟩
       have P3:=Lib.hid p
       replace HB:=Lib.hid (HB.out.trans (hb.mono HB.out.size))
       clear p hb)
    | (go_at_call 41
       with_reducible refine(one_m row [87] v1 _ _ hl (by decide) P1.out).mono ?_
       rintro e w2 ⟨v2,rfl,p,hb⟩
       have P2:=Lib.hid p
       replace HB:=Lib.hid (HB.out.trans (hb.mono HB.out.size))
       clear p hb)
    | (go_at_call 38
       with_reducible refine(begin_m row _ hl).mono ?_
       rintro e w1 ⟨v1,rfl,p,hb⟩
       have P1:=Lib.hid p
       replace HB:=Lib.hid (HB.out.trans (hb.mono HB.out.size))
       clear p hb)
    | fail)
  try go_quiet (fail)
  try go_wp2_with fail
  go_ret
  first
    | exact⟨rfl,HB.out⟩
    | exact⟨rfl,below_drewN' HB.out _⟩
set_option maxHeartbeats 4000000 in
theorem form17_m (row:List UInt8) (w:World) (hl:row.length≤10000):Calls Tryz.prog 22 #[.int .i64 17,.string ⟨row.toArray⟩] w fun e w'=>e=.returned (.bool false)∧Below w.heap.size w w':=by
  go_enter Tryz.func22,Tryz.ntmps22
  go_wp2_with (
    go_at_call 38
    refine(begin_m row _ hl).mono ?_
    rintro e w1 ⟨v1,rfl,p,hb⟩
    have HB:=Lib.hid hb
    clear p hb)
  go_ret
  exact⟨rfl,HB.out⟩
set_option maxHeartbeats 4000000 in
theorem form18_m (row:List UInt8) (w:World) (hl:row.length≤10000):Calls Tryz.prog 22 #[.int .i64 18,.string ⟨row.toArray⟩] w fun e w'=>e=.returned (.bool false)∧Below w.heap.size w w':=by
  go_enter Tryz.func22,Tryz.ntmps22
  go_wp2_with (
    go_at_call 38
    refine(begin_m row _ hl).mono ?_
    rintro e w1 ⟨v1,rfl,p,hb⟩
    have HB:=Lib.hid hb
    clear p hb)
  go_ret
  exact⟨rfl,HB.out⟩
def formV (row:List UInt8):Nat→Bool
  | 1=>fg1 row row.length
  | 2=>fg2 row row.length
  | 3=>fg3 row row.length
  | 4=>fg4 row row.length
  | 5=>fg5 row row.length
  | 8=>fg8 row row.length
  | 9=>fg9 row row.length
  | 10=>fg10 row row.length
  | 11=>fg11 row row.length
  | 12=>fg12 row row.length
  | 13=>fg13 row row.length
  | 14=>fg14 row row.length
  | 15=>fg15 row row.length
  | 16=>fg16 row row.length
  | _=>false
theorem form_m (k:Nat) (row:List UInt8) (w:World) (hk:1≤k∧k≤18) (h67:k≠6∧k≠7) (h5:k=5→row≠[]) (hl:row.length≤10000):Calls Tryz.prog 22 #[.int .i64 (k:Int),.string ⟨row.toArray⟩] w fun e w'=>e=.returned (.bool (formV row k))∧Below w.heap.size w w':=by
  have key:k=1∨k=2∨k=3∨k=4∨k=5∨k=8∨k=9∨k=10∨k=11∨k=12∨k=13∨k=14∨k=15∨k=16∨k=17∨k=18:=by omega
  rcases key with rfl|rfl|rfl|rfl|rfl|rfl|rfl|rfl|rfl|rfl|rfl|rfl|rfl|rfl|rfl|rfl
  ·exact form1_m row w hl
  ·exact form2_m row w hl
  ·exact form3_m row w hl
  ·exact form4_m row w hl
  ·exact form5_m row w hl (h5 rfl)
  ·exact form8_m row w hl
  ·exact form9_m row w hl
  ·exact form10_m row w hl
  ·exact form11_m row w hl
  ·exact form12_m row w hl
  ·exact form13_m row w hl
  ·exact form14_m row w hl
  ·exact form15_m row w hl
  ·exact form16_m row w hl
  ·exact form17_m row w hl
  ·exact form18_m row w hl
theorem formV_ok (k:Nat) (row:List UInt8) (hk:1≤k∧k≤18) (h67:k≠6∧k≠7) (h:formV row k=true):Rm (frm k) row:=by
  have key:k=1∨k=2∨k=3∨k=4∨k=5∨k=8∨k=9∨k=10∨k=11∨k=12∨k=13∨k=14∨k=15∨k=16∨k=17∨k=18:=by omega
  rcases key with rfl|rfl|rfl|rfl|rfl|rfl|rfl|rfl|rfl|rfl|rfl|rfl|rfl|rfl|rfl|rfl
  ·have:=lg1 row row.length (Nat.le_refl _) h;rwa [List.take_length] at this
  ·have:=lg2 row row.length (Nat.le_refl _) h;rwa [List.take_length] at this
  ·have:=lg3 row row.length (Nat.le_refl _) h;rwa [List.take_length] at this
  ·have:=lg4 row row.length (Nat.le_refl _) h;rwa [List.take_length] at this
  ·have:=lg5 row row.length (Nat.le_refl _) h;rwa [List.take_length] at this
  ·have:=lg8 row row.length (Nat.le_refl _) h;rwa [List.take_length] at this
  ·have:=lg9 row row.length (Nat.le_refl _) h;rwa [List.take_length] at this
  ·have:=lg10 row row.length (Nat.le_refl _) h;rwa [List.take_length] at this
  ·have:=lg11 row row.length (Nat.le_refl _) h;rwa [List.take_length] at this
  ·have:=lg12 row row.length (Nat.le_refl _) h;rwa [List.take_length] at this
  ·have:=lg13 row row.length (Nat.le_refl _) h;rwa [List.take_length] at this
  ·have:=lg14 row row.length (Nat.le_refl _) h;rwa [List.take_length] at this
  ·have:=lg15 row row.length (Nat.le_refl _) h;rwa [List.take_length] at this
  ·have:=lg16 row row.length (Nat.le_refl _) h;rwa [List.take_length] at this
  ·cases h
  ·cases h
end Go.Proofs.YtlbfdbinaekjoaaGreatDoor
