/- Where a word ends: modes.ends, modes.End and the reference's End are one function of the text and the place. -/
import Derived.Test.YtmclohkaiemnaaaGreatDoorMo9
import Derived.Test.YtmclohkaiemnaaaGreatDoorPl6
import Derived.Test.YtmclohkaiemnaaaGreatDoorCls
import Derived.Test.YtmclohkaiemnaaaGreatDoorRfy
set_option linter.unusedVariables false
set_option linter.unusedSimpArgs false
set_option maxRecDepth 100000
set_option maxHeartbeats 8000000
namespace Go.Proofs.YtmclohkaiemnaaaGreatDoor
open Go.RowKit
variable {N:Nat} {v:Value} {W:World} (B b:Nat) (c:UInt8) (p:Int) (st:fK) (x:UInt8×Int) (l:List UInt8) (a:Nat) (y:UInt8) (f:Bool) (m:Int) (n Bn:Nat) (at_:Int) (k g:Nat) (w:World)
theorem NN (h:eT w B b [x] f at_) :
    ls 132 #[.pointer (some ⟨b,0,none⟩),.int .u8 (y.toNat:Int)] w (.bool (rL [x] y)):=by
  obtain⟨h1,g,cap,h2,h3⟩:=h;have c0:w.cell? ⟨b,0,none⟩=some (.slice (some ⟨g,0,none⟩) 1 cap):=by rw[h2.cell];rfl
  clear h1 h2 h3;have e:rL [x] y=iO y:=by simp[rL]
  rw[e]
  cases hy:iO y;all_goals (
    have HY:=ac hy;clear hy e;go_enter Tryz.func132,Tryz.ntmps132;go_wp2_with (go_at_call 155;refine(jE y _).mono ?_;rintro e w' ⟨rfl,rfl⟩;rw[HY.out]);go_ret;first|exact⟨rfl,rfl⟩|exact⟨rfl,trivial⟩|simp)
theorem NM (h:eT w B b [(c,p),x] f at_) :
    ls 132 #[.pointer (some ⟨b,0,none⟩),.int .u8 (y.toNat:Int)] w (.bool (rL [(c,p),x] y)):=by
  obtain⟨g,cap,t0,t1,t2,t3⟩:=h.top (n:=1) (m:=fg c) rfl rfl;clear h;have e:rL [(c,p),x] y=(iO y&&(decide (c.toNat=76)&&decide (y.toNat≠40))):=by simp[rL]
  rw[e];have hm:(fg c==12)=decide (c.toNat=76):=by
    have:=gh (fun c=>(fg c==12)==decide (c.toNat=76)) (by decide +kernel) c
    simpa using this
  have hn:((y.toNat:Int)!=40)=decide (y.toNat≠40):=by
    rw[cT];simp;omega
  rw[←hm,←hn];generalize fg c=m at *;clear e hm hn;have HY:ac trivial=ac trivial:=rfl
  cases hy:iO y
  ·have HY:=ac hy;clear hy;go_enter Tryz.func132,Tryz.ntmps132;go_wp2_with (go_at_call 155;refine(jE y _).mono ?_;rintro e w' ⟨rfl,rfl⟩;rw[HY.out]);go_ret;simp
  ·have HY:=ac hy;clear hy
   cases hm:(m==12)
   ·go_enter Tryz.func132,Tryz.ntmps132;go_wp2_with (go_at_call 155;refine(jE y _).mono ?_;rintro e w' ⟨rfl,rfl⟩;rw[HY.out]);go_ret;simp
   ·go_enter Tryz.func132,Tryz.ntmps132;go_wp2_with (go_at_call 155;refine(jE y _).mono ?_;rintro e w' ⟨rfl,rfl⟩;rw[HY.out]);go_ret;simp
theorem NK (h:eT w B b st f at_) (h3:3≤st.length) :
    ls 132 #[.pointer (some ⟨b,0,none⟩),.int .u8 (y.toNat:Int)] w (.bool false):=by
  obtain⟨h1,g,cap,h2,h3'⟩:=h;have c0:w.cell? ⟨b,0,none⟩=some (.slice (some ⟨g,0,none⟩) st.length cap):=by rw[h2.cell];rfl
  clear h1 h2 h3';generalize st.length=n at *;have z1:((n:Int)==1)=false:=by rw[aK];omega
  have z2:((n:Int)==2)=false:=by rw[aK];omega
  cases hy:iO y;all_goals (
    have HY:=ac hy;clear hy;go_enter Tryz.func132,Tryz.ntmps132;go_wp2_with (go_at_call 155;refine(jE y _).mono ?_;rintro e w' ⟨rfl,rfl⟩;rw[HY.out]);go_ret;first|exact⟨rfl,rfl⟩|exact⟨rfl,trivial⟩|simp)
theorem Gt (h:eT w B b st f at_) (hne:st≠[]) :
    ls 132 #[.pointer (some ⟨b,0,none⟩),.int .u8 (y.toNat:Int)] w (.bool (rL st y)):=by
  match st,hne with
  | [x],_=>exact NN B b x y f at_ w h
  | [(c,p),x],_=>exact NM B b c p x y f at_ w h
  | x1::x2::x3::r,_=>
    have e:rL (x1::x2::x3::r) y=false:=by simp[rL]
    rw[e];exact NK B b _ y f at_ w h (by simp)
theorem Lj (h:zw c=true):c=84∨c=67∨c=80∨c=79∨c=83∨c=68∨c=66∨c=86∨c=73∨c=65∨c=82∨c=69∨c=76∨c=88∨c=35:=by
  have:=gh (fun c => !zw c||(c==84||c==67||c==80||c==79||c==83||c==68||c==66||c==86||c==73||c==65||c==82||c==69||c==76||c==88||c==35)) (by decide +kernel) c
  simpa [h,or_assoc] using this
theorem AN (l:List UInt8) (w:World) (h:(m=0∧l=[])∨(m=1∧l=[41])∨(m=2∧l=[41])∨(m=3∧l=[41])∨(m=4∧l=[39])∨(m=5∧l=[34])∨(m=6∧l=[96])∨(m=7∧l=[125])∨(m=8∧l=[125])∨(m=9∧l=[41,41])∨(m=10∧l=[41])∨(m=11∧l=[41])∨(m=12∧l=[])∨(m=13∧l=[10])∨(m=14∧l=[10])) :
    ls 136 #[.int .i64 m] w (.string ⟨l.toArray⟩):=by
  rcases h with ⟨rfl,rfl⟩|⟨rfl,rfl⟩|⟨rfl,rfl⟩|⟨rfl,rfl⟩|⟨rfl,rfl⟩|⟨rfl,rfl⟩|⟨rfl,rfl⟩|⟨rfl,rfl⟩|⟨rfl,rfl⟩|⟨rfl,rfl⟩|⟨rfl,rfl⟩|⟨rfl,rfl⟩|⟨rfl,rfl⟩|⟨rfl,rfl⟩|⟨rfl,rfl⟩
  all_goals (
    go_enter Tryz.func136,Tryz.ntmps136;go_wp2;go_ret;exact⟨rfl,rfl⟩)
theorem ug (h:zw c=true) :
    ls 136 #[.int .i64 (fg c)] w (.string ⟨(pF c).toArray⟩):=by
  refine AN _ _ w ?_;rcases Lj c h with rfl|rfl|rfl|rfl|rfl|rfl|rfl|rfl|rfl|rfl|rfl|rfl|rfl|rfl|rfl<;>decide +kernel
theorem EA (n:Nat) (hn:a+k=n) (hlt:n<l.length):iA (l.drop a) (k+1)=f9 (iA (l.drop a) k).1 (iA (l.drop a) k).2 ((ByteArray.mk l.toArray)[n]'hlt) k:=by
  subst hn;show f9 _ _ ((l.drop a).getD k 0) _=_;rw[uj,aF,bv,ax hlt];rfl
theorem NP (hl:l.length≤50000) (ha:a≤l.length) :
    jJ 114 #[.string ⟨l.toArray⟩,.int .i64 (a:Int)] w (.int .i64 ((a+lE l a:Nat):Int)):=by
  have t0:decide ((a:Int)<0)=false:=by simp
  have t1:decide ((l.length:Int)<(a:Int))=false:=by simp;omega
  go_enter Tryz.func114,Tryz.ntmps114
  go_wp2_with (first
    | (go_at_call 131;refine(Fw _).mono ?_;rintro e w1 ⟨b,rfl,hm1,hb1⟩;have H1:=ac (ae hm1 hb1);clear hm1 hb1))
  go_loopw [1] (fun i wr=>∃k:Nat,a+k≤l.length∧i=.int .i64 ((a+k:Nat):Int)∧eT wr w.heap.size b (iA (l.drop a) k).1 (iA (l.drop a) k).2 k∧Below w.heap.size w wr∧lH (gQ l a) (l.length-a-k) k=lE l a) (fun i _=>l.length-(intOf i).toNat)
  case atStart=>exact⟨0,by omega,rfl,H1.out.1,H1.out.2,rfl⟩
  case round=>
    obtain⟨k,hk,rfl,hm,hb,he⟩:=hrel;have hbot:=ou (l.drop a) k;have hv:=uO (l.drop a) k;have hlen:=mM (l.drop a) k;have HR:=ac (ae hm (ae hb (ae hbot (ae hv (ae he hlen)))));clear hm hb hbot hv he hlen;generalize hn:a+k=n at *;have HN:=ac hn;clear hn;by_cases hlt:n<l.length
    ·have hi0:(0:Int)≤(n:Int):=by omega
     have hi1:(n:Int)<(l.length:Int):=by omega
     have hstop:gQ l a k=rL (iA (l.drop a) k).1 ((ByteArray.mk l.toArray)[n]'hlt):=by
       unfold gQ;rw[HN.out,uj,aF,ax hlt];rfl
     cases hs:gQ l a k
     ·have HS:=ac (ae (hstop.symm.trans hs) hs);clear hs hstop
      go_wp2_with (first
        | (go_at_call 132;refine(Gt w.heap.size b _ _ _ _ _ HR.out.1 HR.out.2.2.1.ne).mono ?_;rintro e w2 ⟨rfl,rfl⟩;rw[HS.out.1])
        | (go_at_call 133;refine(AJ w.heap.size b _ _ _ _ _ HR.out.1 HR.out.2.2.1 HR.out.2.2.2.1 (by have:=HR.out.2.2.2.2.2;have:=HN.out;omega) (by omega) (by have:=HN.out;omega)).mono ?_;rintro e w2 ⟨rfl,hm2,hb2⟩;have H2:=ac (ae hm2 hb2);clear hm2 hb2))
      obtain⟨hm2,hb2⟩:=H2.out;have hn:=HN.out;have e:iA (l.drop a) (k+1)=f9 (iA (l.drop a) k).1 (iA (l.drop a) k).2 ((ByteArray.mk l.toArray)[n]'hlt) k:=EA l a k n hn hlt;rw[←e] at hm2;refine⟨⟨k+1,by omega,by rw[←hn];go_num,by simpa using hm2,HR.out.2.1.trans hb2.b,?_⟩,by simp[intOf];omega⟩;rw[show l.length-a-(k+1)=l.length-a-k-1 by omega,←J5 HS.out.2 (by omega)];exact HR.out.2.2.2.2.1
     ·have HS:=ac (ae (hstop.symm.trans hs) hs);clear hs hstop
      go_wp2_with (first
        | (go_at_call 132;refine(Gt w.heap.size b _ _ _ _ _ HR.out.1 HR.out.2.2.1.ne).mono ?_;rintro e w2 ⟨rfl,rfl⟩;rw[HS.out.1]))
      go_ret;refine⟨oo ?_,HR.out.2.1⟩;rw[←HR.out.2.2.2.2.1,Dh HS.out.2,HN.out]
    ·go_wp2;go_ret;refine⟨oo ?_,HR.out.2.1⟩;have hn:=HN.out;rw[←HR.out.2.2.2.2.1,show l.length-a-k=0 by omega];show (n:Int)=((a+k:Nat):Int);rw[hn]
section
open Go.RowKit
attribute [local go_sem] Oper.semAt_some
abbrev VL:={c:UInt8 // zw c=true}
theorem FN (l Bn g c n₀:Nat) (X:Nat→Prop) (vs:List VL) (J Jx:List VL→World→Prop) (hY:∀pre x W,J pre W→pre.length<vs.length→YieldAt Fence.wide (n-1) Tryz.prog l #[.int .i64 (fg x.1)] W fun e W'=>
      (e=.returned (.bool true)∧J (pre++[x]) W'∧fi n₀ X W W')∨(e=.returned (.bool false)∧Jx (pre++[x]) W')) (W:World) (hBn:W.cell? ⟨Bn,0,none⟩=some (.slice (some ⟨g,0,none⟩) vs.length c)) (hBn0:Bn<n₀) (hg:g<n₀) (hx1:¬X Bn) (hx2:¬X g) (hcs:∀k (x:VL),vs.reverse[k]? = some x→W.cell? ⟨g,k*2,none⟩=some (.int .i64 (fg x.1))) (hlen:vs.length≤100000) (hc:vs.length≤c) (h0:J [] W) :
    CallsIn Fence.wide n Tryz.prog 162 #[.func (.yield l) #[] #[],.pointer (some ⟨Bn,0,none⟩)] W fun e W'=>(∃v,e=.returned v) ∧
      ((∃ys,ys=vs∧J ys W')∨(∃pre,pre<+:vs∧Jx pre W')):=by
  have HC:=ac hcs;clear hcs;refine callsIn_of_wp Tryz.func162 rfl trivial ?_ rfl;simp only[Tryz.ntmps162,cJ,aL,cg,Nat.reduceAdd,Nat.reduceSub,cy,cz,cO,cH,cK,bH];gi_wp2;gi_loopw [3] (fun i wr=>∃k:Nat,k≤vs.length∧i=.int .i64 ((vs.length:Int)-1-k)∧fi n₀ X W wr∧J (vs.take k) wr) (fun i _=>(intOf i+1).toNat)
  case atStart=>exact⟨0,by omega,by simp,fi.refl _ _ _,h0⟩
  case round=>
    obtain⟨k,hk,rfl,hb,hJs⟩:=hrel;have hBn':=(hb.cell hBn0 hx1 0).trans hBn;by_cases hlt:k<vs.length
    ·obtain⟨x,hx⟩:∃x,vs[k]? = some x:=⟨_,ax hlt⟩;have hcell:wr.cell? ⟨g,(vs.length-1-k)*2,none⟩=some (.int .i64 (fg x.1)):=(hb.cell hg hx2 _).trans (HC.out _ x (by
       rw[dR (by omega)];rw[show vs.length-1-(vs.length-1-k)=k by omega];exact hx))
     have k1:(0:Int)≤(vs.length:Int)-1-k:=by omega
     have k2:(vs.length:Int)-1-k<(vs.length:Int):=by omega
     have k3:((vs.length:Int)-1-k).toNat=vs.length-1-k:=by omega
     have etk:vs.take (k+1)=vs.take k++[x]:=by
       obtain⟨h1,h2⟩:=az.1 hx;rw[bS h1,h2]
     obtain⟨fn,tmps,assign,body,hy,hR⟩:=hY (vs.take k) x wr hJs (by rw[bz];omega);have HR:=ac (ae hb (ae hJs (ae hx etk)));clear hb hJs hx etk hBn h0 hY;gi_wp2;refine⟨fun h=>by simp[Fence.wide] at h,?_⟩;refine hR.mono ?_;rintro e W3 (⟨rfl,hJ3,hk3⟩|⟨rfl,hJx3⟩)
     ·have hJ4:=hJ3;rw[←HR.out.2.2.2] at hJ4;have H3:=ac (ae hJ4 (HR.out.1.trans hk3));clear hJ3 hk3 hJ4;gi_wp2;go_roundw
      case rel=>exact⟨k+1,by omega,by simp;omega,H3.out.2,H3.out.1⟩
      case measure=>simp[intOf];omega
     ·have hJ4:=hJx3;rw[←HR.out.2.2.2] at hJ4;have H3:=ac hJ4;clear hJx3 hJ4;gi_wp2;refine bn ?_;exact⟨⟨_,rfl⟩,.inr ⟨vs.take (k+1),List.take_prefix _ _,H3.out⟩⟩
    ·have e:k=vs.length:=by omega
     subst e;have HR:=ac hJs;clear hJs h0 hY;gi_wp2;go_end0;exact⟨⟨_,rfl⟩,.inl ⟨_,rfl,by have:=HR.out;rwa [bR (au _)] at this⟩⟩
theorem Me (v:Value) (w:World) (hv:∃A n c,v=.slice A n c) :
    Calls Tryz.prog 135 #[v] w fun e w'=>e=.returned (.func (.func 162) #[] #[.pointer (some ⟨w.heap.size,0,none⟩)])∧w'=w.alloc (.cells #[v] 146):=by
  obtain⟨A,n,c,rfl⟩:=hv;go_enter Tryz.func135,Tryz.ntmps135;go_wp2;go_ret;exact⟨rfl,rfl⟩
theorem AC (c n₀:Nat) (X:Nat→Prop) (vs:List VL) (w:World) (hBn:Bn<w.heap.size) (hn₀:n₀≤w.heap.size) (hB0:Bn<n₀) (hg:g<n₀) (hx1:¬X Bn) (hx2:¬X g) (hc:w.cell? ⟨Bn,0,none⟩=some (.slice (some ⟨g,0,none⟩) vs.length c)) (hcs:∀k (x:VL),vs.reverse[k]? = some x→w.cell? ⟨g,k*2,none⟩=some (.int .i64 (fg x.1))) (hlen:vs.length≤100000) (hcap:vs.length≤c) :
    SeqStopsK Fence.wide n Tryz.prog 162 #[.pointer (some ⟨Bn,0,none⟩)] (fun x:VL=>#[Value.int .i64 (fg x.1)]) (fi n₀ X) (fun ys=>ys=vs) (fun pre=>pre<+:vs) vs.length w:=fun l J Jx W hW _ _ hY h0=>
  FN n l Bn g c n₀ X vs J Jx hY W ((hW.cell (p:=⟨Bn,0,none⟩) hBn).trans hc) hB0 hg hx1 hx2 (fun k x hx=>(hW.cell (p:=⟨g,k*2,none⟩) (show g<w.heap.size by omega)).trans (hcs k x hx)) hlen hcap h0
def mi (pre:List VL):List UInt8:=pre.flatMap fun x=>pF x.1
theorem uW (pre:List VL) (x:VL):mi (pre++[x])=mi pre++pF x.1:=by simp[mi]
theorem Fb (pre:List VL):(mi pre).length≤2*pre.length:=by
  induction pre with
  | nil=>simp[mi]
  | cons x r ih=>have:mi (x::r)=pF x.1++mi r:=rfl
                 rw[this,aD,aL];have:=zd x.1;omega
theorem nV {pre:List VL} {x:VL} (h:W.ownsRow N 5 1 v ((mi pre).length+(ByteArray.mk (pF x.1).toArray).size) (fD (mi pre)++Lib.strCells ⟨(pF x.1).toArray⟩)) :
    W.ownsRow N 5 1 v (mi (pre++[x])).length (fD (mi (pre++[x]))):=by
  have e:fD (mi (pre++[x]))=fD (mi pre)++Lib.strCells ⟨(pF x.1).toArray⟩:=by rw[uW];unfold fD Lib.strCells;simp
  rw[e,uW,aD];exact h
theorem wS {l:List UInt8} (h:W.ownsRow N 5 1 v l.length (fD l)) :
    (Go.convert 149 9 v).run Tryz.prog W=.ok (.string ⟨l.toArray⟩) W:=by
  rcases h.2 with ⟨rfl,h0⟩|⟨g,cap,cur,rfl,_⟩
  ·obtain rfl:=bN h0;rw[run_convert_bytes_string W _ _ _ none 0 0 Tryz.underlying149 Tryz.underlying5 Tryz.underlying9];rfl
  ·refine run_convert_bytes_back (P:=Tryz.prog) W 149 9 5 ⟨g,0,none⟩ cap l Tryz.underlying149 Tryz.underlying5 Tryz.underlying9 ?_;intro j hj;rw[Addr.add_lit,dv];refine eM h j _ ?_;rw[fD,aV,ax hj];rfl
theorem MX (h:∀y∈st,zw y.1=true):∃vs:List VL,vs.map (·.1)=st.map (·.1)∧vs.length=st.length∧mi vs=Oh st:=by
  induction st with
  | nil=>exact⟨[],rfl,rfl,rfl⟩
  | cons y r ih=>
    obtain⟨vs,h1,h2,h3⟩:=ih (fun z hz=>h z (by simp[hz]));refine⟨⟨y.1,h y (by simp)⟩::vs,by simp[h1],by simp[h2],?_⟩;show pF y.1++mi vs=_;rw[h3];rfl
theorem Dj (hl:l.length≤900) :
    jJ 115 #[.string ⟨l.toArray⟩] w (.string ⟨(Oh (iA l l.length).1).toArray⟩):=by
  obtain⟨vs,hv1,hv2,hv3⟩:=MX (iA l l.length).1 (uO l l.length).all;have hvl:vs.length≤901:=by rw[hv2];have:=mM l l.length;omega
  have HV:=ac (ae hv1 (ae hv2 hv3));clear hv1 hv2 hv3;have hmix:Tryz.prog.follows .mixedOrders=true:=by kernel_rfl
  obtain⟨i0,hi,hz0,hz1,hz2⟩:=cL Tryz.infoByte;refine(aX (n:=5)).1 ?_;refine callsIn_of_wp_marks Tryz.func115 rfl trivial ?_ rfl;simp only[Tryz.ntmps115,cJ,aL,cg,Nat.reduceAdd,Nat.reduceSub,cy,cz,cO,cH,cK,bH]
  gi_wp2_with (first
    | (refine⟨trivial,?_⟩;gi_at_call 134;refine(aX.2 (Nj l _ (by omega))).mono ?_;rintro e w1 ⟨g,c,rfl,hfr,hb1⟩;unfold Fr at hfr;rw[←HV.out.2.1] at hfr ⊢;have H1:=ac (ae hfr hb1);clear hfr hb1)
    | (refine⟨trivial,?_⟩;gi_at_call 135;refine(aX.2 (Me _ _ ⟨_,_,_,rfl⟩)).mono ?_;rintro e w2 ⟨rfl,rfl⟩))
  obtain⟨W0,hW0⟩:∃W0,(w1.alloc (.cells #[.slice none 0 0] 149)).alloc (.cells #[.slice (some ⟨g,0,none⟩) vs.length c] 146)=W0:=⟨_,rfl⟩;have bO:Boxed W0 w1.heap.size 149 (.slice none 0 0):=by rw[←hW0];exact(Boxed.new w1 _ _).alloc _
  have bL:Boxed W0 (w1.heap.size+1) 146 (.slice (some ⟨g,0,none⟩) vs.length c):=by rw[←hW0];have:=Boxed.new (w1.alloc (.cells #[.slice none 0 0] 149)) 146 (.slice (some ⟨g,0,none⟩) vs.length c);rwa [bc] at this
  have hs0:W0.heap.size=w1.heap.size+2:=by rw[←hW0];simp
  have hb0:Below w1.heap.size w1 W0:=by rw[←hW0];exact((ay _ w1).alloc (au _) _).alloc (by simp) _
  obtain⟨hfr,hb1⟩:=H1.out;obtain⟨_,hcap,_,_,hgl⟩:=iu hfr;have hfr0:=eC hfr hb0;have hbw:Below w.heap.size w W0:=hb1.trans (hb0.mono hb1.size);have hcs:∀k (x:VL),vs.reverse[k]? = some x→W0.cell? ⟨g,k*2,none⟩=some (.int .i64 (fg x.1)):=by
    intro k x hx;have e:(iA l l.length).1.reverse.map (·.1)=vs.reverse.map (·.1):=by rw[List.map_reverse,List.map_reverse,HV.out.1]
    have hk:((iA l l.length).1.reverse.map (·.1))[k]? = some x.1:=by rw[e,aV,hx];rfl
    rw[aV] at hk
    cases hp:(iA l l.length).1.reverse[k]? with
    | none=>rw[hp] at hk;cases hk
    | some y=>
      rw[hp] at hk;simp at hk;obtain⟨d,p⟩:=y;simp at hk;subst hk;exact eM hfr0 _ _ (vj _ k _ p hp).1
  rw[hW0];clear hW0;have hwo:w.heap.size≤w1.heap.size:=hb1.size;have HW:=ac (ae hbw (ae hb1 hfr0));clear hfr hb1 hfr0 hbw hb0
  refine wpIn_rangeFunc_ownG rfl (by omega) (gf:=162) (lb:=#[.pointer (some ⟨w1.heap.size+1,0,none⟩)]) rfl trivial (enters_of Tryz.func162 (by kernel_rfl) rfl)
    (AC (5-1) (w1.heap.size+1) g c W0.heap.size (· = w1.heap.size) vs W0 (by omega) (au _) (by omega) (by omega) (by omega) (by omega) bL.cell hcs (by omega) hcap) (fun h k=>h.trans k) (fun W l o o' hl h1 h2 h3=>rE W l o o' hl h1 h2 h3) (ay _ _) (fun _=>rfl)
    (fun pre W=>(∃v,Boxed W w1.heap.size 149 v∧W.ownsRow W0.heap.size 5 1 v (mi pre).length (fD (mi pre))∧True)∧Below w.heap.size w W∧W0.heap.size≤W.heap.size)
    (fun _ _ _=>False)
    (OwnFrom.and (Own.from (holdsRow_own W0.heap.size w1.heap.size 149 5 1 (fun pre=>(mi pre).length) (fun pre=>fD (mi pre)) (fun pre v=>True)) _) (OwnFrom.and (ownFrom_below (au _) (by omega)) (wl _ _)))
    (fun _ _ _ _ _ hs _ _=>hs)
    ⟨⟨_,bO,de _ _ _ _,trivial⟩,HW.out.1,au _⟩
    (fun x=>{tmps:=#[.string ⟨l.toArray⟩,undef,.string ⟨#[]⟩,.slice (some ⟨g,0,none⟩) vs.length c,.bool (iA l l.length).2,.pointer (some ⟨w1.heap.size,0,none⟩),.int .i64 (fg x.1),
      .tuple #[.slice (some ⟨g,0,none⟩) vs.length c,.bool (iA l l.length).2],.string ⟨l.toArray⟩,.tuple #[.slice (some ⟨g,0,none⟩) vs.length c,.bool (iA l l.length).2],.slice (some ⟨g,0,none⟩) vs.length c,.bool (iA l l.length).2,
      .slice (some ⟨g,0,none⟩) vs.length c,.func (.func 162) #[] #[.pointer (some ⟨w1.heap.size+1,0,none⟩)],.int .i64 (fg x.1),undef,undef,undef,undef,undef,undef],defers:=[]}) ?assign ?body ?done ?stop
  case assign=>
    intro l x W K hK;gi_wp2;exact hK
  case body=>
    rintro l pre x W ⟨⟨v,hv,hrow,_⟩,hB,hS⟩ hlt;have hc:=hv.cell;have hf:=hv.frozen;gi_wp2_with fail;have hlb:(mi pre).length≤2*pre.length:=Fb pre;have hsz:(ByteArray.mk (pF x.1).toArray).size≤2:=zd x.1;refine wpIn_region_any hmix ?_;refine wpAnyIn_ready (rs:=[0,1]) (by kernel_rfl) (by simp) ?_;refine AllReadyIn.cons rfl (fun K hK=>?_) (AllReadyIn.cons rfl (fun K hK=>?_) AllReadyIn.nil)
    ·go_simp;refine hK _ _ ?_;clear hK K;refine wpAnyIn_ready (rs:=[1]) (by kernel_rfl) (by simp) ?_;refine AllReadyIn.cons rfl (fun K hK=>?_) AllReadyIn.nil;go_simp;refine hK _ _ ?_;clear hK K;refine wpAnyIn_ready (rs:=[2]) (by kernel_rfl) (by simp) ?_;refine AllReadyIn.cons rfl (fun K hK=>?_) AllReadyIn.nil;go_simp;refine⟨trivial,(qw (ug x.1 _ x.2)).mono ?_⟩;rintro e w2 ⟨rfl,rfl⟩;refine hK _ _ ?_;clear hK K;refine wpAnyIn_ready (rs:=[3]) (by kernel_rfl) (by simp) ?_;refine AllReadyIn.cons rfl (fun K hK=>?_) AllReadyIn.nil;refine jw rfl (.tmp 15) (.tmp 17) 149 9 rfl W0.heap.size 5 i0 Tryz.underlying149 Tryz.underlying9 hi hz0 hz1 hz2 v _ _ rfl (gY hrow) ⟨(pF x.1).toArray⟩ rfl (by unfold maxLen;omega) (by omega) hS ?_;intro v3 w3 hown3 hg3;have hW1:Below W.heap.size W W.drew:=dX (ay _ _) 1;have hv3:=oM hv (by decide) hrow hW1 hg3;have hc3:=hv3.cell;have hf3:=hv3.frozen;obtain⟨A3,n3,c3,rfl⟩:=eA hown3;have H3:=ac (mV (M:=W0.heap.size) hv (by decide) hrow hS (by omega) hW1 hg3 hown3);clear hown3 hg3 hv3 hW1;refine hK _ _ ?_;clear hK K;refine wpAnyIn_ready (rs:=[4]) (by kernel_rfl) (by simp) ?_;refine AllReadyIn.cons rfl (fun K hK=>?_) AllReadyIn.nil;go_simp;refine hK _ _ ?_;clear hK K;refine wpAnyIn_done (by kernel_rfl) ?_ _;gi_wp2;obtain⟨q1,q2,q3,q4,q5,q6⟩:=H3.out;exact⟨q1,q2,⟨_,q3,nV q4,trivial⟩,hB.trans (q5 _ hwo),q6⟩
    ·go_simp;refine hK _ _ ?_;clear hK K;refine wpAnyIn_ready (rs:=[0,2]) (by kernel_rfl) (by simp) ?_;refine AllReadyIn.cons rfl (fun K hK=>?_) (AllReadyIn.cons rfl (fun K hK=>?_) AllReadyIn.nil)
     ·go_simp;refine hK _ _ ?_;clear hK K;refine wpAnyIn_ready (rs:=[2]) (by kernel_rfl) (by simp) ?_;refine AllReadyIn.cons rfl (fun K hK=>?_) AllReadyIn.nil;go_simp;refine⟨trivial,(qw (ug x.1 _ x.2)).mono ?_⟩;rintro e w2 ⟨rfl,rfl⟩;refine hK _ _ ?_;clear hK K;refine wpAnyIn_ready (rs:=[3]) (by kernel_rfl) (by simp) ?_;refine AllReadyIn.cons rfl (fun K hK=>?_) AllReadyIn.nil;refine jw rfl (.tmp 15) (.tmp 17) 149 9 rfl W0.heap.size 5 i0 Tryz.underlying149 Tryz.underlying9 hi hz0 hz1 hz2 v _ _ rfl (gY hrow) ⟨(pF x.1).toArray⟩ rfl (by unfold maxLen;omega) (by omega) hS ?_;intro v3 w3 hown3 hg3;have hW1:Below W.heap.size W W.drew:=dX (ay _ _) 1;have hv3:=oM hv (by decide) hrow hW1 hg3;have hc3:=hv3.cell;have hf3:=hv3.frozen;obtain⟨A3,n3,c3,rfl⟩:=eA hown3;have H3:=ac (mV (M:=W0.heap.size) hv (by decide) hrow hS (by omega) hW1 hg3 hown3);clear hown3 hg3 hv3 hW1;refine hK _ _ ?_;clear hK K;refine wpAnyIn_ready (rs:=[4]) (by kernel_rfl) (by simp) ?_;refine AllReadyIn.cons rfl (fun K hK=>?_) AllReadyIn.nil;go_simp;refine hK _ _ ?_;clear hK K;refine wpAnyIn_done (by kernel_rfl) ?_ _;gi_wp2;obtain⟨q1,q2,q3,q4,q5,q6⟩:=H3.out;exact⟨q1,q2,⟨_,q3,nV q4,trivial⟩,hB.trans (q5 _ hwo),q6⟩
     ·go_simp;refine⟨trivial,(qw (ug x.1 _ x.2)).mono ?_⟩;rintro e w2 ⟨rfl,rfl⟩;refine hK _ _ ?_;clear hK K;refine wpAnyIn_ready (rs:=[0]) (by kernel_rfl) (by simp) ?_;refine AllReadyIn.cons rfl (fun K hK=>?_) AllReadyIn.nil;go_simp;refine hK _ _ ?_;clear hK K;refine wpAnyIn_ready (rs:=[3]) (by kernel_rfl) (by simp) ?_;refine AllReadyIn.cons rfl (fun K hK=>?_) AllReadyIn.nil;refine jw rfl (.tmp 15) (.tmp 17) 149 9 rfl W0.heap.size 5 i0 Tryz.underlying149 Tryz.underlying9 hi hz0 hz1 hz2 v _ _ rfl (gY hrow) ⟨(pF x.1).toArray⟩ rfl (by unfold maxLen;omega) (by omega) hS ?_;intro v3 w3 hown3 hg3;have hW1:Below W.heap.size W W.drew:=dX (ay _ _) 1;have hv3:=oM hv (by decide) hrow hW1 hg3;have hc3:=hv3.cell;have hf3:=hv3.frozen;obtain⟨A3,n3,c3,rfl⟩:=eA hown3;have H3:=ac (mV (M:=W0.heap.size) hv (by decide) hrow hS (by omega) hW1 hg3 hown3);clear hown3 hg3 hv3 hW1;refine hK _ _ ?_;clear hK K;refine wpAnyIn_ready (rs:=[4]) (by kernel_rfl) (by simp) ?_;refine AllReadyIn.cons rfl (fun K hK=>?_) AllReadyIn.nil;go_simp;refine hK _ _ ?_;clear hK K;refine wpAnyIn_done (by kernel_rfl) ?_ _;gi_wp2;obtain⟨q1,q2,q3,q4,q5,q6⟩:=H3.out;exact⟨q1,q2,⟨_,q3,nV q4,trivial⟩,hB.trans (q5 _ hwo),q6⟩
  case done=>
    rintro D ys W hD rfl ⟨⟨v,hv,hrow,hnil⟩,hB,hS⟩ hK;have hc:=hv.cell;have hbk:=belowK_b (w:=w) (au _) W D (.deferred (some [])) (.deferred none) (by omega) hK rfl rfl;have hcv:=wS hrow;obtain⟨A,n,c,rfl⟩:=eA hrow;have HD:=ac (ae hB hbk);clear hB hbk hrow;gi_wp2;refine⟨by simp,.inl ⟨_,_,rfl,run_takeDeferred hK,?_⟩⟩;refine⟨_,dH rfl _ _ _,?_,HD.out.1.trans HD.out.2⟩;rw[HV.out.2.2];rfl
  case stop=>
    rintro D c pre W _ _ h _;exact h.elim
end
end Go.Proofs.YtmclohkaiemnaaaGreatDoor
