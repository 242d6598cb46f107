/- Where a word ends: modes.ends, modes.End and the reference's End are one function of the text and the place. -/
import Derived.Test.YtlbfdbinaekjoaaGreatDoorMo9
import Derived.Test.YtlbfdbinaekjoaaGreatDoorPl6
import Derived.Test.YtlbfdbinaekjoaaGreatDoorCls
import Derived.Test.YtlbfdbinaekjoaaGreatDoorRfy
namespace Go.Proofs.YtlbfdbinaekjoaaGreatDoor
open Go.RowKit
set_option linter.unusedVariables false
set_option linter.unusedSimpArgs false
set_option maxRecDepth 100000
theorem ends1 (B b:Nat) (x:UInt8×Int) (y:UInt8) (f:Bool) (at_:Int) (w:World) (h:Mach w B b [x] f at_) :
    Calls Tryz.prog 94 #[.pointer (some ⟨b,0,none⟩),.int .u8 (y.toNat:Int)] w fun e w'=>e=.returned (.bool (endB [x] y))∧w=w':=by
  obtain⟨h1,g,cap,h2,h3⟩:=h
  have c0:w.cell? ⟨b,0,none⟩=some (.slice (some ⟨g,0,none⟩) 1 cap):=by rw[h2.cell];rfl
  clear h1 h2 h3
  have e:endB [x] y=endsB y:=by simp[endB]
  rw[e]
  cases hy:endsB y
  all_goals (
    have HY:=Lib.hid hy
    clear hy e
    go_enter Tryz.func94,Tryz.ntmps94
    go_wp2_with (go_at_call 124;refine(ends_c y _).mono ?_;rintro e w' ⟨rfl,rfl⟩;rw[HY.out])
    go_ret
    first|exact⟨rfl,rfl⟩|exact⟨rfl,trivial⟩|simp)
theorem ends2 (B b:Nat) (c:UInt8) (p:Int) (x:UInt8×Int) (y:UInt8) (f:Bool) (at_:Int) (w:World) (h:Mach w B b [(c,p),x] f at_) :
    Calls Tryz.prog 94 #[.pointer (some ⟨b,0,none⟩),.int .u8 (y.toNat:Int)] w fun e w'=>e=.returned (.bool (endB [(c,p),x] y))∧w=w':=by
  obtain⟨g,cap,t0,t1,t2,t3⟩:=h.top (n:=1) (m:=modeOf c) rfl rfl
  clear h
  have e:endB [(c,p),x] y=(endsB y&&(decide (c.toNat=76)&&decide (y.toNat≠40))):=by simp[endB]
  rw[e]
  have hm:(modeOf c==12)=decide (c.toNat=76):=by
    have:=byte_all (fun c=>(modeOf c==12)==decide (c.toNat=76)) (by decide +kernel) c
    simpa using this
  have hn:((y.toNat:Int)!=40)=decide (y.toNat≠40):=by
    rw[Bool.eq_iff_iff];simp;omega
  rw[←hm,←hn]
  generalize modeOf c=m at *
  clear e hm hn
  have HY:Lib.hid trivial=Lib.hid trivial:=rfl
  cases hy:endsB y
  ·have HY:=Lib.hid hy
   clear hy
   go_enter Tryz.func94,Tryz.ntmps94
   go_wp2_with (go_at_call 124;refine(ends_c y _).mono ?_;rintro e w' ⟨rfl,rfl⟩;rw[HY.out])
   go_ret
   simp
  ·have HY:=Lib.hid hy
   clear hy
   cases hm:(m==12)
   ·go_enter Tryz.func94,Tryz.ntmps94
    go_wp2_with (go_at_call 124;refine(ends_c y _).mono ?_;rintro e w' ⟨rfl,rfl⟩;rw[HY.out])
    go_ret
    simp
   ·go_enter Tryz.func94,Tryz.ntmps94
    go_wp2_with (go_at_call 124;refine(ends_c y _).mono ?_;rintro e w' ⟨rfl,rfl⟩;rw[HY.out])
    go_ret
    simp
theorem ends3 (B b:Nat) (st:Stk) (y:UInt8) (f:Bool) (at_:Int) (w:World) (h:Mach w B b st f at_) (h3:3≤st.length) :
    Calls Tryz.prog 94 #[.pointer (some ⟨b,0,none⟩),.int .u8 (y.toNat:Int)] w fun e w'=>e=.returned (.bool false)∧w=w':=by
  obtain⟨h1,g,cap,h2,h3'⟩:=h
  have c0:w.cell? ⟨b,0,none⟩=some (.slice (some ⟨g,0,none⟩) st.length cap):=by rw[h2.cell];rfl
  clear h1 h2 h3'
  generalize st.length=n at *
  have z1:((n:Int)==1)=false:=by rw[beq_eq_false_iff_ne];omega
  have z2:((n:Int)==2)=false:=by rw[beq_eq_false_iff_ne];omega
  cases hy:endsB y
  all_goals (
    have HY:=Lib.hid hy
    clear hy
    go_enter Tryz.func94,Tryz.ntmps94
    go_wp2_with (go_at_call 124;refine(ends_c y _).mono ?_;rintro e w' ⟨rfl,rfl⟩;rw[HY.out])
    go_ret
    first|exact⟨rfl,rfl⟩|exact⟨rfl,trivial⟩|simp)
theorem ends_m (B b:Nat) (st:Stk) (y:UInt8) (f:Bool) (at_:Int) (w:World) (h:Mach w B b st f at_) (hne:st≠[]) :
    Calls Tryz.prog 94 #[.pointer (some ⟨b,0,none⟩),.int .u8 (y.toNat:Int)] w fun e w'=>e=.returned (.bool (endB st y))∧w=w':=by
  match st,hne with
  | [x],_=>exact ends1 B b x y f at_ w h
  | [(c,p),x],_=>exact ends2 B b c p x y f at_ w h
  | x1::x2::x3::r,_=>
    have e:endB (x1::x2::x3::r) y=false:=by simp[endB]
    rw[e]
    exact ends3 B b _ y f at_ w h (by simp)
end Go.Proofs.YtlbfdbinaekjoaaGreatDoor
namespace Go.Proofs.YtlbfdbinaekjoaaGreatDoor
open Go.RowKit
set_option linter.unusedVariables false
set_option linter.unusedSimpArgs false
set_option maxRecDepth 100000
theorem val_or (c:UInt8) (h:Val c=true):c=84∨c=67∨c=80∨c=79∨c=83∨c=68∨c=66∨c=86∨c=73∨c=65∨c=82∨c=69∨c=76∨c=88∨c=35:=by
  have:=byte_all (fun c => !Val c||(c==84||c==67||c==80||c==79||c==83||c==68||c==66||c==86||c==73||c==65||c==82||c==69||c==76||c==88||c==35)) (by decide +kernel) c
  simpa [h,or_assoc] using this
set_option maxHeartbeats 1000000 in
theorem closer_lit (m:Int) (l:List UInt8) (w:World)
    (h:(m=0∧l=[])∨(m=1∧l=[41])∨(m=2∧l=[41])∨(m=3∧l=[41])∨(m=4∧l=[39])∨(m=5∧l=[34])∨(m=6∧l=[96])∨(m=7∧l=[125])∨(m=8∧l=[125])∨(m=9∧l=[41,41])∨(m=10∧l=[41])∨(m=11∧l=[41])∨(m=12∧l=[])∨(m=13∧l=[10])∨(m=14∧l=[10])) :
    Calls Tryz.prog 98 #[.int .i64 m] w fun e w'=>e=.returned (.string ⟨l.toArray⟩)∧w=w':=by
  rcases h with ⟨rfl,rfl⟩|⟨rfl,rfl⟩|⟨rfl,rfl⟩|⟨rfl,rfl⟩|⟨rfl,rfl⟩|⟨rfl,rfl⟩|⟨rfl,rfl⟩|⟨rfl,rfl⟩|⟨rfl,rfl⟩|⟨rfl,rfl⟩|⟨rfl,rfl⟩|⟨rfl,rfl⟩|⟨rfl,rfl⟩|⟨rfl,rfl⟩|⟨rfl,rfl⟩
  all_goals (
    go_enter Tryz.func98,Tryz.ntmps98
    go_wp2
    go_ret
    exact⟨rfl,rfl⟩)
theorem closer_m (c:UInt8) (w:World) (h:Val c=true) :
    Calls Tryz.prog 98 #[.int .i64 (modeOf c)] w fun e w'=>e=.returned (.string ⟨(cloL c).toArray⟩)∧w=w':=by
  refine closer_lit _ _ w ?_
  rcases val_or c h with rfl|rfl|rfl|rfl|rfl|rfl|rfl|rfl|rfl|rfl|rfl|rfl|rfl|rfl|rfl<;>decide +kernel
end Go.Proofs.YtlbfdbinaekjoaaGreatDoor
namespace Go.Proofs.YtlbfdbinaekjoaaGreatDoor
open Go.RowKit
set_option linter.unusedVariables false
set_option linter.unusedSimpArgs false
set_option maxRecDepth 100000
theorem rAt_drop (l:List UInt8) (a k n:Nat) (hn:a+k=n) (hlt:n<l.length):rAt (l.drop a) (k+1)=rStep (rAt (l.drop a) k).1 (rAt (l.drop a) k).2 ((ByteArray.mk l.toArray)[n]'hlt) k:=by
  subst hn
  show rStep _ _ ((l.drop a).getD k 0) _=_
  rw[ba_get,List.getD_eq_getElem?_getD,List.getElem?_drop,List.getElem?_eq_getElem hlt]
  rfl
set_option maxHeartbeats 1000000 in
theorem end_m (l:List UInt8) (a:Nat) (w:World) (hl:l.length≤50000) (ha:a≤l.length) :
    Calls Tryz.prog 78 #[.string ⟨l.toArray⟩,.int .i64 (a:Int)] w fun e w'=>e=.returned (.int .i64 ((a+endL l a:Nat):Int))∧Below w.heap.size w w':=by
  have t0:decide ((a:Int)<0)=false:=by simp
  have t1:decide ((l.length:Int)<(a:Int))=false:=by simp;omega
  go_enter Tryz.func78,Tryz.ntmps78
  go_wp2_with (first
    | (go_at_call 93
       refine(new_m _).mono ?_
       rintro e w1 ⟨b,rfl,hm1,hb1⟩
       have H1:=Lib.hid (And.intro hm1 hb1)
       clear hm1 hb1))
  go_loopw [1] (fun i wr=>∃k:Nat,a+k≤l.length∧i=.int .i64 ((a+k:Nat):Int)∧Mach wr w.heap.size b (rAt (l.drop a) k).1 (rAt (l.drop a) k).2 k∧Below w.heap.size w wr∧endF (endStop l a) (l.length-a-k) k=endL l a) (fun i _=>l.length-(intOf i).toNat)
  case atStart=>exact⟨0,by omega,rfl,H1.out.1,H1.out.2,rfl⟩
  case round=>
    obtain⟨k,hk,rfl,hm,hb,he⟩:=hrel
    have hbot:=rAt_bot (l.drop a) k
    have hv:=rAt_v (l.drop a) k
    have hlen:=rAt_len (l.drop a) k
    have HR:=Lib.hid (And.intro hm (And.intro hb (And.intro hbot (And.intro hv (And.intro he hlen)))))
    clear hm hb hbot hv he hlen
    generalize hn:a+k=n at *
    have HN:=Lib.hid hn
    clear hn
    by_cases hlt:n<l.length
    ·have hi0:(0:Int)≤(n:Int):=by omega
     have hi1:(n:Int)<(l.length:Int):=by omega
     have hstop:endStop l a k=endB (rAt (l.drop a) k).1 ((ByteArray.mk l.toArray)[n]'hlt):=by
       unfold endStop
       rw[HN.out,ba_get,List.getD_eq_getElem?_getD,List.getElem?_eq_getElem hlt]
       rfl
     cases hs:endStop l a k
     ·have HS:=Lib.hid (And.intro (hstop.symm.trans hs) hs)
      clear hs hstop
      go_wp2_with (first
        | (go_at_call 94
           refine(ends_m w.heap.size b _ _ _ _ _ HR.out.1 HR.out.2.2.1.ne).mono ?_
           rintro e w2 ⟨rfl,rfl⟩
           rw[HS.out.1])
        | (go_at_call 95
           refine(feed_m w.heap.size b _ _ _ _ _ HR.out.1 HR.out.2.2.1 HR.out.2.2.2.1 (by have:=HR.out.2.2.2.2.2;have:=HN.out;omega) (by omega) (by have:=HN.out;omega)).mono ?_
           rintro e w2 ⟨rfl,hm2,hb2⟩
           have H2:=Lib.hid (And.intro hm2 hb2)
           clear hm2 hb2))
      obtain⟨hm2,hb2⟩:=H2.out
      have hn:=HN.out
      have e:rAt (l.drop a) (k+1)=rStep (rAt (l.drop a) k).1 (rAt (l.drop a) k).2 ((ByteArray.mk l.toArray)[n]'hlt) k:=rAt_drop l a k n hn hlt
      rw[←e] at hm2
      refine⟨⟨k+1,by omega,by rw[←hn];go_num,by simpa using hm2,HR.out.2.1.trans hb2.b,?_⟩,by simp[intOf];omega⟩
      rw[show l.length-a-(k+1)=l.length-a-k-1 by omega,←endF_go HS.out.2 (by omega)]
      exact HR.out.2.2.2.2.1
     ·have HS:=Lib.hid (And.intro (hstop.symm.trans hs) hs)
      clear hs hstop
      go_wp2_with (first
        | (go_at_call 94
           refine(ends_m w.heap.size b _ _ _ _ _ HR.out.1 HR.out.2.2.1.ne).mono ?_
           rintro e w2 ⟨rfl,rfl⟩
           rw[HS.out.1]))
      go_ret
      refine⟨ret_int ?_,HR.out.2.1⟩
      rw[←HR.out.2.2.2.2.1,endF_stop HS.out.2,HN.out]
    ·go_wp2
     go_ret
     refine⟨ret_int ?_,HR.out.2.1⟩
     have hn:=HN.out
     rw[←HR.out.2.2.2.2.1,show l.length-a-k=0 by omega]
     show (n:Int)=((a+k:Nat):Int)
     rw[hn]
end Go.Proofs.YtlbfdbinaekjoaaGreatDoor
namespace Go.Proofs.YtlbfdbinaekjoaaGreatDoor
open Go.RowKit
set_option linter.unusedVariables false
set_option linter.unusedSimpArgs false
set_option maxRecDepth 100000
attribute [local go_sem] Oper.semAt_some
abbrev VL:={c:UInt8 // Val c=true}
set_option maxRecDepth 100000 in
set_option maxHeartbeats 1000000 in
theorem last1_in (n l Bn g c n₀:Nat) (X:Nat→Prop) (vs:List VL) (J Jx:List VL→World→Prop)
    (hY:∀pre x W,J pre W→pre.length<vs.length→YieldAt Fence.wide (n-1) Tryz.prog l #[.int .i64 (modeOf x.1)] W fun e W'=>
      (e=.returned (.bool true)∧J (pre++[x]) W'∧KeepX n₀ X W W')∨(e=.returned (.bool false)∧Jx (pre++[x]) W'))
    (W:World) (hBn:W.cell? ⟨Bn,0,none⟩=some (.slice (some ⟨g,0,none⟩) vs.length c)) (hBn0:Bn<n₀) (hg:g<n₀) (hx1:¬X Bn) (hx2:¬X g) (hcs:∀k (x:VL),vs.reverse[k]? = some x→W.cell? ⟨g,k*2,none⟩=some (.int .i64 (modeOf x.1)))
    (hlen:vs.length≤100000) (hc:vs.length≤c) (h0:J [] W) :
    CallsIn Fence.wide n Tryz.prog 131 #[.func (.yield l) #[] #[],.pointer (some ⟨Bn,0,none⟩)] W fun e W'=>(∃v,e=.returned v) ∧
      ((∃ys,ys=vs∧J ys W')∨(∃pre,pre<+:vs∧Jx pre W')):=by
  have HC:=Lib.hid hcs
  clear hcs
  refine callsIn_of_wp Tryz.func131 rfl trivial ?_ rfl
  simp only[Tryz.ntmps131,List.size_toArray,List.length_cons,List.length_nil,Nat.reduceAdd,Nat.reduceSub,Array.replicate_succ,Array.replicate_zero,List.push_toArray,List.append_toArray,List.nil_append,List.cons_append]
  gi_wp2
  gi_loopw [3] (fun i wr=>∃k:Nat,k≤vs.length∧i=.int .i64 ((vs.length:Int)-1-k)∧KeepX n₀ X W wr∧J (vs.take k) wr) (fun i _=>(intOf i+1).toNat)
  case atStart=>exact⟨0,by omega,by simp,KeepX.refl _ _ _,h0⟩
  case round=>
    obtain⟨k,hk,rfl,hb,hJs⟩:=hrel
    have hBn':=(hb.cell hBn0 hx1 0).trans hBn
    by_cases hlt:k<vs.length
    ·obtain⟨x,hx⟩:∃x,vs[k]? = some x:=⟨_,List.getElem?_eq_getElem hlt⟩
     have hcell:wr.cell? ⟨g,(vs.length-1-k)*2,none⟩=some (.int .i64 (modeOf x.1)):=(hb.cell hg hx2 _).trans (HC.out _ x (by
       rw[List.getElem?_reverse (by omega)]
       rw[show vs.length-1-(vs.length-1-k)=k by omega]
       exact hx))
     have k1:(0:Int)≤(vs.length:Int)-1-k:=by omega
     have k2:(vs.length:Int)-1-k<(vs.length:Int):=by omega
     have k3:((vs.length:Int)-1-k).toNat=vs.length-1-k:=by omega
     have etk:vs.take (k+1)=vs.take k++[x]:=by
       obtain⟨h1,h2⟩:=List.getElem?_eq_some_iff.1 hx
       rw[List.take_succ_eq_append_getElem h1,h2]
     obtain⟨fn,tmps,assign,body,hy,hR⟩:=hY (vs.take k) x wr hJs (by rw[List.length_take];omega)
     have HR:=Lib.hid (And.intro hb (And.intro hJs (And.intro hx etk)))
     clear hb hJs hx etk hBn h0 hY
     gi_wp2
     refine⟨fun h=>by simp[Fence.wide] at h,?_⟩
     refine hR.mono ?_
     rintro e W3 (⟨rfl,hJ3,hk3⟩|⟨rfl,hJx3⟩)
     ·have hJ4:=hJ3
      rw[←HR.out.2.2.2] at hJ4
      have H3:=Lib.hid (And.intro hJ4 (HR.out.1.trans hk3))
      clear hJ3 hk3 hJ4
      gi_wp2
      go_roundw
      case rel=>exact⟨k+1,by omega,by simp;omega,H3.out.2,H3.out.1⟩
      case measure=>simp[intOf];omega
     ·have hJ4:=hJx3
      rw[←HR.out.2.2.2] at hJ4
      have H3:=Lib.hid hJ4
      clear hJx3 hJ4
      gi_wp2
      refine bodyPost_ret (results_none rfl _ _ _) rfl ?_
      exact⟨⟨_,rfl⟩,.inr ⟨vs.take (k+1),List.take_prefix _ _,H3.out⟩⟩
    ·have e:k=vs.length:=by omega
     subst e
     have HR:=Lib.hid hJs
     clear hJs h0 hY
     gi_wp2
     go_end0
     exact⟨⟨_,rfl⟩,.inl ⟨_,rfl,by have:=HR.out;rwa [List.take_of_length_le (Nat.le_refl _)] at this⟩⟩
theorem last_m (v:Value) (w:World) (hv:∃A n c,v=.slice A n c) :
    Calls Tryz.prog 97 #[v] w fun e w'=>e=.returned (.func (.func 131) #[] #[.pointer (some ⟨w.heap.size,0,none⟩)])∧w'=w.alloc (.cells #[v] 108):=by
  obtain⟨A,n,c,rfl⟩:=hv
  go_enter Tryz.func97,Tryz.ntmps97
  go_wp2
  go_ret
  exact⟨rfl,rfl⟩
theorem last_stops (n Bn g c n₀:Nat) (X:Nat→Prop) (vs:List VL) (w:World) (hBn:Bn<w.heap.size) (hn₀:n₀≤w.heap.size) (hB0:Bn<n₀) (hg:g<n₀) (hx1:¬X Bn) (hx2:¬X g)
    (hc:w.cell? ⟨Bn,0,none⟩=some (.slice (some ⟨g,0,none⟩) vs.length c)) (hcs:∀k (x:VL),vs.reverse[k]? = some x→w.cell? ⟨g,k*2,none⟩=some (.int .i64 (modeOf x.1))) (hlen:vs.length≤100000) (hcap:vs.length≤c) :
    SeqStopsK Fence.wide n Tryz.prog 131 #[.pointer (some ⟨Bn,0,none⟩)] (fun x:VL=>#[Value.int .i64 (modeOf x.1)]) (KeepX n₀ X) (fun ys=>ys=vs) (fun pre=>pre<+:vs) vs.length w:=fun l J Jx W hW _ _ hY h0=>
  last1_in n l Bn g c n₀ X vs J Jx hY W ((hW.cell (p:=⟨Bn,0,none⟩) hBn).trans hc) hB0 hg hx1 hx2 (fun k x hx=>(hW.cell (p:=⟨g,k*2,none⟩) (show g<w.heap.size by omega)).trans (hcs k x hx)) hlen hcap h0
def outL (pre:List VL):List UInt8:=pre.flatMap fun x=>cloL x.1
theorem outL_snoc (pre:List VL) (x:VL):outL (pre++[x])=outL pre++cloL x.1:=by simp[outL]
theorem outL_len (pre:List VL):(outL pre).length≤2*pre.length:=by
  induction pre with
  | nil=>simp[outL]
  | cons x r ih=>have:outL (x::r)=cloL x.1++outL r:=rfl
                 rw[this,List.length_append,List.length_cons];have:=cloL_len x.1;omega
theorem closing_row {W:World} {N:Nat} {v:Value} {pre:List VL} {x:VL} (h:W.ownsRow N 5 1 v ((outL pre).length+(ByteArray.mk (cloL x.1).toArray).size) (bvals (outL pre)++Lib.strCells ⟨(cloL x.1).toArray⟩)) :
    W.ownsRow N 5 1 v (outL (pre++[x])).length (bvals (outL (pre++[x]))):=by
  have e:bvals (outL (pre++[x]))=bvals (outL pre)++Lib.strCells ⟨(cloL x.1).toArray⟩:=by rw[outL_snoc];unfold bvals Lib.strCells;simp
  rw[e,outL_snoc,List.length_append]
  exact h
theorem closing_back {W:World} {N:Nat} {v:Value} {l:List UInt8} (h:W.ownsRow N 5 1 v l.length (bvals l)) :
    (Go.convert 111 9 v).run Tryz.prog W=.ok (.string ⟨l.toArray⟩) W:=by
  rcases h.2 with ⟨rfl,h0⟩|⟨g,cap,cur,rfl,_⟩
  ·obtain rfl:=List.eq_nil_of_length_eq_zero h0
   rw[run_convert_bytes_string W _ _ _ none 0 0 Tryz.underlying111 Tryz.underlying5 Tryz.underlying9]
   rfl
  ·refine run_convert_bytes_back (P:=Tryz.prog) W 111 9 5 ⟨g,0,none⟩ cap l Tryz.underlying111 Tryz.underlying5 Tryz.underlying9 ?_
   intro j hj
   rw[Addr.add_lit,Nat.zero_add]
   refine own_cell h j _ ?_
   rw[bvals,List.getElem?_map,List.getElem?_eq_getElem hj]
   rfl
theorem vl_of (st:Stk) (h:∀y∈st,Val y.1=true):∃vs:List VL,vs.map (·.1)=st.map (·.1)∧vs.length=st.length∧outL vs=clo st:=by
  induction st with
  | nil=>exact⟨[],rfl,rfl,rfl⟩
  | cons y r ih=>
    obtain⟨vs,h1,h2,h3⟩:=ih (fun z hz=>h z (by simp[hz]))
    refine⟨⟨y.1,h y (by simp)⟩::vs,by simp[h1],by simp[h2],?_⟩
    show cloL y.1++outL vs=_
    rw[h3];rfl
set_option maxRecDepth 100000 in
set_option maxHeartbeats 2000000 in
theorem closing_m (l:List UInt8) (w:World) (hl:l.length≤900) :
    Calls Tryz.prog 79 #[.string ⟨l.toArray⟩] w fun e w'=>e=.returned (.string ⟨(clo (rAt l l.length).1).toArray⟩)∧Below w.heap.size w w':=by
  obtain⟨vs,hv1,hv2,hv3⟩:=vl_of (rAt l l.length).1 (rAt_v l l.length).all
  have hvl:vs.length≤901:=by rw[hv2];have:=rAt_len l l.length;omega
  have HV:=Lib.hid (And.intro hv1 (And.intro hv2 hv3))
  clear hv1 hv2 hv3
  have hmix:Tryz.prog.follows .mixedOrders=true:=by kernel_rfl
  obtain⟨i0,hi,hz0,hz1,hz2⟩:=info_parts Tryz.infoByte
  refine(callsIn_wide (n:=5)).1 ?_
  refine callsIn_of_wp_marks Tryz.func79 rfl trivial ?_ rfl
  simp only[Tryz.ntmps79,List.size_toArray,List.length_cons,List.length_nil,Nat.reduceAdd,Nat.reduceSub,Array.replicate_succ,Array.replicate_zero,List.push_toArray,List.append_toArray,List.nil_append,List.cons_append]
  gi_wp2_with (first
    | (refine⟨trivial,?_⟩
       gi_at_call 96
       refine(callsIn_wide.2 (run_m l _ (by omega))).mono ?_
       rintro e w1 ⟨g,c,rfl,hfr,hb1⟩
       unfold Fr at hfr
       rw[←HV.out.2.1] at hfr ⊢
       have H1:=Lib.hid (And.intro hfr hb1)
       clear hfr hb1)
    | (refine⟨trivial,?_⟩
       gi_at_call 97
       refine(callsIn_wide.2 (last_m _ _ ⟨_,_,_,rfl⟩)).mono ?_
       rintro e w2 ⟨rfl,rfl⟩))
  obtain⟨W0,hW0⟩:∃W0,(w1.alloc (.cells #[.slice none 0 0] 111)).alloc (.cells #[.slice (some ⟨g,0,none⟩) vs.length c] 108)=W0:=⟨_,rfl⟩
  have bO:Boxed W0 w1.heap.size 111 (.slice none 0 0):=by rw[←hW0];exact(Boxed.new w1 _ _).alloc _
  have bL:Boxed W0 (w1.heap.size+1) 108 (.slice (some ⟨g,0,none⟩) vs.length c):=by rw[←hW0];have:=Boxed.new (w1.alloc (.cells #[.slice none 0 0] 111)) 108 (.slice (some ⟨g,0,none⟩) vs.length c);rwa [World.size_alloc] at this
  have hs0:W0.heap.size=w1.heap.size+2:=by rw[←hW0];simp
  have hb0:Below w1.heap.size w1 W0:=by rw[←hW0];exact((Below.refl _ w1).alloc (Nat.le_refl _) _).alloc (by simp) _
  obtain⟨hfr,hb1⟩:=H1.out
  obtain⟨_,hcap,_,_,hgl⟩:=own_le hfr
  have hfr0:=own_below hfr hb0
  have hbw:Below w.heap.size w W0:=hb1.trans (hb0.mono hb1.size)
  have hcs:∀k (x:VL),vs.reverse[k]? = some x→W0.cell? ⟨g,k*2,none⟩=some (.int .i64 (modeOf x.1)):=by
    intro k x hx
    have e:(rAt l l.length).1.reverse.map (·.1)=vs.reverse.map (·.1):=by rw[List.map_reverse,List.map_reverse,HV.out.1]
    have hk:((rAt l l.length).1.reverse.map (·.1))[k]? = some x.1:=by rw[e,List.getElem?_map,hx];rfl
    rw[List.getElem?_map] at hk
    cases hp:(rAt l l.length).1.reverse[k]? with
    | none=>rw[hp] at hk;cases hk
    | some y=>
      rw[hp] at hk
      simp at hk
      obtain⟨d,p⟩:=y
      simp at hk
      subst hk
      exact own_cell hfr0 _ _ (fcells_at _ k _ p hp).1
  rw[hW0]
  clear hW0
  have hwo:w.heap.size≤w1.heap.size:=hb1.size
  have HW:=Lib.hid (And.intro hbw (And.intro hb1 hfr0))
  clear hfr hb1 hfr0 hbw hb0
  refine wpIn_rangeFunc_ownG rfl (by omega) (gf:=131) (lb:=#[.pointer (some ⟨w1.heap.size+1,0,none⟩)]) rfl trivial (enters_of Tryz.func131 (by kernel_rfl) rfl)
    (last_stops (5-1) (w1.heap.size+1) g c W0.heap.size (· = w1.heap.size) vs W0 (by omega) (Nat.le_refl _) (by omega) (by omega) (by omega) (by omega) bL.cell hcs (by omega) hcap) (fun h k=>h.trans k) (fun W l o o' hl h1 h2 h3=>keepX_put W l o o' hl h1 h2 h3) (Below.refl _ _) (fun _=>rfl)
    (fun pre W=>(∃v,Boxed W w1.heap.size 111 v∧W.ownsRow W0.heap.size 5 1 v (outL pre).length (bvals (outL pre))∧True)∧Below w.heap.size w W∧W0.heap.size≤W.heap.size)
    (fun _ _ _=>False)
    (OwnFrom.and (Own.from (holdsRow_own W0.heap.size w1.heap.size 111 5 1 (fun pre=>(outL pre).length) (fun pre=>bvals (outL pre)) (fun pre v=>True)) _) (OwnFrom.and (ownFrom_below (Nat.le_refl _) (by omega)) (ownFrom_size _ _)))
    (fun _ _ _ _ _ hs _ _=>hs)
    ⟨⟨_,bO,World.ownsRow_nil _ _ _ _,trivial⟩,HW.out.1,Nat.le_refl _⟩
    (fun x=>{tmps:=#[.string ⟨l.toArray⟩,undef,.string ⟨#[]⟩,.slice (some ⟨g,0,none⟩) vs.length c,.bool (rAt l l.length).2,.pointer (some ⟨w1.heap.size,0,none⟩),.int .i64 (modeOf x.1),
      .tuple #[.slice (some ⟨g,0,none⟩) vs.length c,.bool (rAt l l.length).2],.string ⟨l.toArray⟩,.tuple #[.slice (some ⟨g,0,none⟩) vs.length c,.bool (rAt l l.length).2],.slice (some ⟨g,0,none⟩) vs.length c,.bool (rAt l l.length).2,
      .slice (some ⟨g,0,none⟩) vs.length c,.func (.func 131) #[] #[.pointer (some ⟨w1.heap.size+1,0,none⟩)],.int .i64 (modeOf x.1),undef,undef,undef,undef,undef,undef],defers:=[]}) ?assign ?body ?done ?stop
  case assign=>
    intro l x W K hK
    gi_wp2
    exact hK
  case body=>
    rintro l pre x W ⟨⟨v,hv,hrow,_⟩,hB,hS⟩ hlt
    have hc:=hv.cell
    have hf:=hv.frozen
    gi_wp2_with fail
    have hlb:(outL pre).length≤2*pre.length:=outL_len pre
    have hsz:(ByteArray.mk (cloL x.1).toArray).size≤2:=cloL_len x.1
    refine wpIn_region_any hmix ?_
    refine wpAnyIn_ready (rs:=[0,1]) (by kernel_rfl) (by simp) ?_
    refine AllReadyIn.cons rfl (fun K hK=>?_) (AllReadyIn.cons rfl (fun K hK=>?_) AllReadyIn.nil)
    ·go_simp
     refine hK _ _ ?_
     clear hK K
     refine wpAnyIn_ready (rs:=[1]) (by kernel_rfl) (by simp) ?_
     refine AllReadyIn.cons rfl (fun K hK=>?_) AllReadyIn.nil
     go_simp
     refine hK _ _ ?_
     clear hK K
     refine wpAnyIn_ready (rs:=[2]) (by kernel_rfl) (by simp) ?_
     refine AllReadyIn.cons rfl (fun K hK=>?_) AllReadyIn.nil
     go_simp
     refine⟨trivial,(in_round (closer_m x.1 _ x.2)).mono ?_⟩
     rintro e w2 ⟨rfl,rfl⟩
     refine hK _ _ ?_
     clear hK K
     refine wpAnyIn_ready (rs:=[3]) (by kernel_rfl) (by simp) ?_
     refine AllReadyIn.cons rfl (fun K hK=>?_) AllReadyIn.nil
     refine stepIn_append_str rfl (.tmp 15) (.tmp 17) 111 9 rfl W0.heap.size 5 i0 Tryz.underlying111 Tryz.underlying9 hi hz0 hz1 hz2 v _ _ rfl (own_drew hrow) ⟨(cloL x.1).toArray⟩ rfl (by unfold maxLen;omega) (by omega) hS ?_
     intro v3 w3 hown3 hg3
     have hW1:Below W.heap.size W W.drew:=below_drewN' (Below.refl _ _) 1
     have hv3:=box_grown hv (by decide) hrow hW1 hg3
     have hc3:=hv3.cell
     have hf3:=hv3.frozen
     obtain⟨A3,n3,c3,rfl⟩:=own_form' hown3
     have H3:=Lib.hid (box_append (M:=W0.heap.size) hv (by decide) hrow hS (by omega) hW1 hg3 hown3)
     clear hown3 hg3 hv3 hW1
     refine hK _ _ ?_
     clear hK K
     refine wpAnyIn_ready (rs:=[4]) (by kernel_rfl) (by simp) ?_
     refine AllReadyIn.cons rfl (fun K hK=>?_) AllReadyIn.nil
     go_simp
     refine hK _ _ ?_
     clear hK K
     refine wpAnyIn_done (by kernel_rfl) ?_ _
     gi_wp2
     obtain⟨q1,q2,q3,q4,q5,q6⟩:=H3.out
     exact⟨q1,q2,⟨_,q3,closing_row q4,trivial⟩,hB.trans (q5 _ hwo),q6⟩
    ·go_simp
     refine hK _ _ ?_
     clear hK K
     refine wpAnyIn_ready (rs:=[0,2]) (by kernel_rfl) (by simp) ?_
     refine AllReadyIn.cons rfl (fun K hK=>?_) (AllReadyIn.cons rfl (fun K hK=>?_) AllReadyIn.nil)
     ·go_simp
      refine hK _ _ ?_
      clear hK K
      refine wpAnyIn_ready (rs:=[2]) (by kernel_rfl) (by simp) ?_
      refine AllReadyIn.cons rfl (fun K hK=>?_) AllReadyIn.nil
      go_simp
      refine⟨trivial,(in_round (closer_m x.1 _ x.2)).mono ?_⟩
      rintro e w2 ⟨rfl,rfl⟩
      refine hK _ _ ?_
      clear hK K
      refine wpAnyIn_ready (rs:=[3]) (by kernel_rfl) (by simp) ?_
      refine AllReadyIn.cons rfl (fun K hK=>?_) AllReadyIn.nil
      refine stepIn_append_str rfl (.tmp 15) (.tmp 17) 111 9 rfl W0.heap.size 5 i0 Tryz.underlying111 Tryz.underlying9 hi hz0 hz1 hz2 v _ _ rfl (own_drew hrow) ⟨(cloL x.1).toArray⟩ rfl (by unfold maxLen;omega) (by omega) hS ?_
      intro v3 w3 hown3 hg3
      have hW1:Below W.heap.size W W.drew:=below_drewN' (Below.refl _ _) 1
      have hv3:=box_grown hv (by decide) hrow hW1 hg3
      have hc3:=hv3.cell
      have hf3:=hv3.frozen
      obtain⟨A3,n3,c3,rfl⟩:=own_form' hown3
      have H3:=Lib.hid (box_append (M:=W0.heap.size) hv (by decide) hrow hS (by omega) hW1 hg3 hown3)
      clear hown3 hg3 hv3 hW1
      refine hK _ _ ?_
      clear hK K
      refine wpAnyIn_ready (rs:=[4]) (by kernel_rfl) (by simp) ?_
      refine AllReadyIn.cons rfl (fun K hK=>?_) AllReadyIn.nil
      go_simp
      refine hK _ _ ?_
      clear hK K
      refine wpAnyIn_done (by kernel_rfl) ?_ _
      gi_wp2
      obtain⟨q1,q2,q3,q4,q5,q6⟩:=H3.out
      exact⟨q1,q2,⟨_,q3,closing_row q4,trivial⟩,hB.trans (q5 _ hwo),q6⟩
     ·go_simp
      refine⟨trivial,(in_round (closer_m x.1 _ x.2)).mono ?_⟩
      rintro e w2 ⟨rfl,rfl⟩
      refine hK _ _ ?_
      clear hK K
      refine wpAnyIn_ready (rs:=[0]) (by kernel_rfl) (by simp) ?_
      refine AllReadyIn.cons rfl (fun K hK=>?_) AllReadyIn.nil
      go_simp
      refine hK _ _ ?_
      clear hK K
      refine wpAnyIn_ready (rs:=[3]) (by kernel_rfl) (by simp) ?_
      refine AllReadyIn.cons rfl (fun K hK=>?_) AllReadyIn.nil
      refine stepIn_append_str rfl (.tmp 15) (.tmp 17) 111 9 rfl W0.heap.size 5 i0 Tryz.underlying111 Tryz.underlying9 hi hz0 hz1 hz2 v _ _ rfl (own_drew hrow) ⟨(cloL x.1).toArray⟩ rfl (by unfold maxLen;omega) (by omega) hS ?_
      intro v3 w3 hown3 hg3
      have hW1:Below W.heap.size W W.drew:=below_drewN' (Below.refl _ _) 1
      have hv3:=box_grown hv (by decide) hrow hW1 hg3
      have hc3:=hv3.cell
      have hf3:=hv3.frozen
      obtain⟨A3,n3,c3,rfl⟩:=own_form' hown3
      have H3:=Lib.hid (box_append (M:=W0.heap.size) hv (by decide) hrow hS (by omega) hW1 hg3 hown3)
      clear hown3 hg3 hv3 hW1
      refine hK _ _ ?_
      clear hK K
      refine wpAnyIn_ready (rs:=[4]) (by kernel_rfl) (by simp) ?_
      refine AllReadyIn.cons rfl (fun K hK=>?_) AllReadyIn.nil
      go_simp
      refine hK _ _ ?_
      clear hK K
      refine wpAnyIn_done (by kernel_rfl) ?_ _
      gi_wp2
      obtain⟨q1,q2,q3,q4,q5,q6⟩:=H3.out
      exact⟨q1,q2,⟨_,q3,closing_row q4,trivial⟩,hB.trans (q5 _ hwo),q6⟩
  case done=>
    rintro D ys W hD rfl ⟨⟨v,hv,hrow,hnil⟩,hB,hS⟩ hK
    have hc:=hv.cell
    have hbk:=belowK_b (w:=w) (Nat.le_refl _) W D (.deferred (some [])) (.deferred none) (by omega) hK rfl rfl
    have hcv:=closing_back hrow
    obtain⟨A,n,c,rfl⟩:=own_form' hrow
    have HD:=Lib.hid (And.intro hB hbk)
    clear hB hbk hrow
    gi_wp2
    refine⟨by simp,.inl ⟨_,_,rfl,run_takeDeferred hK,?_⟩⟩
    refine⟨_,results_tmp rfl _ _ _,?_,HD.out.1.trans HD.out.2⟩
    rw[HV.out.2.2]
    rfl
  case stop=>
    rintro D c pre W _ _ h _
    exact h.elim
end Go.Proofs.YtlbfdbinaekjoaaGreatDoor
