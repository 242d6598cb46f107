/- Where a word ends: modes.ends, modes.End and the reference's End are one function of the text and the place. -/
import Derived.Test.YtcagfamdoaoimaaGreatDoorMo9
import Derived.Test.YtcagfamdoaoimaaGreatDoorPl6
import Derived.Test.YtcagfamdoaoimaaGreatDoorCls
import Derived.Test.YtcagfamdoaoimaaGreatDoorRfy
set_option linter.unusedVariables false
set_option linter.unusedSimpArgs false
set_option maxRecDepth 100000
set_option maxHeartbeats 8000000
namespace Go.Proofs.YtcagfamdoaoimaaGreatDoor
open Go.RowKit
variable {N:Nat} {v:Value} {W:World} (B b:Nat) (c:UInt8) (p:Int) (st:eU) (x:UInt8×Int) (l:List UInt8) (a:Nat) (y:UInt8) (f:Bool) (m:Int) (n Bn:Nat) (at_:Int) (k g:Nat) (w:World)
theorem Nq (h:eI w B b [x] f at_) :
    iG 195 #[.pointer (some ⟨b,0,none⟩),.int .u8 (y.toNat:Int)] w (.bool (nu [x] y)):=by
  obtain⟨h1,g,cap,h2,h3⟩:=h;have c0:w.cell? ⟨b,0,none⟩=some (.slice (some ⟨g,0,none⟩) 1 cap):=by rw[h2.cell];rfl
  clear h1 h2 h3;have e:nu [x] y=gR y:=by simp[nu]
  rw[e]
  cases hy:gR y;all_goals (
    have HY:=aa hy;clear hy e;go_enter Tryz.func195,Tryz.ntmps195;go_wp2_with (go_at_call 226;refine(jr y _).mono ?_;rintro e w' ⟨rfl,rfl⟩;rw[HY.out]);go_ret;first|exact⟨rfl,rfl⟩|exact⟨rfl,trivial⟩|simp)
theorem Np (h:eI w B b [(c,p),x] f at_) :
    iG 195 #[.pointer (some ⟨b,0,none⟩),.int .u8 (y.toNat:Int)] w (.bool (nu [(c,p),x] y)):=by
  obtain⟨g,cap,t0,t1,t2,t3⟩:=h.top (n:=1) (m:=eH c) rfl rfl;clear h;have e:nu [(c,p),x] y=(gR y&&(decide (c.toNat=76)&&decide (y.toNat≠40))):=by simp[nu]
  rw[e];have hm:(eH c==12)=decide (c.toNat=76):=by
    have:=fg (fun c=>(eH c==12)==decide (c.toNat=76)) (by decide +kernel) c
    simpa using this
  have hn:((y.toNat:Int)!=40)=decide (y.toNat≠40):=by
    rw[bB];simp;omega
  rw[←hm,←hn];generalize eH c=m at *;clear e hm hn;have HY:aa trivial=aa trivial:=rfl
  cases hy:gR y
  ·have HY:=aa hy;clear hy;go_enter Tryz.func195,Tryz.ntmps195;go_wp2_with (go_at_call 226;refine(jr y _).mono ?_;rintro e w' ⟨rfl,rfl⟩;rw[HY.out]);go_ret;simp
  ·have HY:=aa hy;clear hy
   cases hm:(m==12)
   ·go_enter Tryz.func195,Tryz.ntmps195;go_wp2_with (go_at_call 226;refine(jr y _).mono ?_;rintro e w' ⟨rfl,rfl⟩;rw[HY.out]);go_ret;simp
   ·go_enter Tryz.func195,Tryz.ntmps195;go_wp2_with (go_at_call 226;refine(jr y _).mono ?_;rintro e w' ⟨rfl,rfl⟩;rw[HY.out]);go_ret;simp
theorem No (h:eI w B b st f at_) (h3:3≤st.length) :
    iG 195 #[.pointer (some ⟨b,0,none⟩),.int .u8 (y.toNat:Int)] w (.bool false):=by
  obtain⟨h1,g,cap,h2,h3'⟩:=h;have c0:w.cell? ⟨b,0,none⟩=some (.slice (some ⟨g,0,none⟩) st.length cap):=by rw[h2.cell];rfl
  clear h1 h2 h3';generalize st.length=n at *;have z1:((n:Int)==1)=false:=by rw[az];omega
  have z2:((n:Int)==2)=false:=by rw[az];omega
  cases hy:gR y;all_goals (
    have HY:=aa hy;clear hy;go_enter Tryz.func195,Tryz.ntmps195;go_wp2_with (go_at_call 226;refine(jr y _).mono ?_;rintro e w' ⟨rfl,rfl⟩;rw[HY.out]);go_ret;first|exact⟨rfl,rfl⟩|exact⟨rfl,trivial⟩|simp)
theorem GN (h:eI w B b st f at_) (hne:st≠[]) :
    iG 195 #[.pointer (some ⟨b,0,none⟩),.int .u8 (y.toNat:Int)] w (.bool (nu st y)):=by
  match st,hne with
  | [x],_=>exact Nq B b x y f at_ w h
  | [(c,p),x],_=>exact Np B b c p x y f at_ w h
  | x1::x2::x3::r,_=>
    have e:nu (x1::x2::x3::r) y=false:=by simp[nu]
    rw[e];exact No B b _ y f at_ w h (by simp)
theorem KV (h:uM c=true):c=84∨c=67∨c=80∨c=79∨c=83∨c=68∨c=66∨c=86∨c=73∨c=65∨c=82∨c=69∨c=76∨c=88∨c=35:=by
  have:=fg (fun c => !uM c||(c==84||c==67||c==80||c==79||c==83||c==68||c==66||c==86||c==73||c==65||c==82||c==69||c==76||c==88||c==35)) (by decide +kernel) c
  simpa [h,or_assoc] using this
theorem BA (l:List UInt8) (w:World) (h:(m=0∧l=[])∨(m=1∧l=[41])∨(m=2∧l=[41])∨(m=3∧l=[41])∨(m=4∧l=[39])∨(m=5∧l=[34])∨(m=6∧l=[96])∨(m=7∧l=[125])∨(m=8∧l=[125])∨(m=9∧l=[41,41])∨(m=10∧l=[41])∨(m=11∧l=[41])∨(m=12∧l=[])∨(m=13∧l=[10])∨(m=14∧l=[10])) :
    iG 198 #[.int .i64 m] w (.string ⟨l.toArray⟩):=by
  rcases h with ⟨rfl,rfl⟩|⟨rfl,rfl⟩|⟨rfl,rfl⟩|⟨rfl,rfl⟩|⟨rfl,rfl⟩|⟨rfl,rfl⟩|⟨rfl,rfl⟩|⟨rfl,rfl⟩|⟨rfl,rfl⟩|⟨rfl,rfl⟩|⟨rfl,rfl⟩|⟨rfl,rfl⟩|⟨rfl,rfl⟩|⟨rfl,rfl⟩|⟨rfl,rfl⟩
  all_goals (
    go_enter Tryz.func198,Tryz.ntmps198;go_wp2;go_ret;exact⟨rfl,rfl⟩)
theorem uH (h:uM c=true) :
    iG 198 #[.int .i64 (eH c)] w (.string ⟨(mA c).toArray⟩):=by
  refine BA _ _ w ?_;rcases KV c h with rfl|rfl|rfl|rfl|rfl|rfl|rfl|rfl|rfl|rfl|rfl|rfl|rfl|rfl|rfl<;>decide +kernel
theorem EV (n:Nat) (hn:a+k=n) (hlt:n<l.length):fY (l.drop a) (k+1)=eG (fY (l.drop a) k).1 (fY (l.drop a) k).2 ((ByteArray.mk l.toArray)[n]'hlt) k:=by
  subst hn;show eG _ _ ((l.drop a).getD k 0) _=_;rw[lz,aE,cy,ax hlt];rfl
theorem Ns (hl:l.length≤50000) (ha:a≤l.length) :
    jL 166 #[.string ⟨l.toArray⟩,.int .i64 (a:Int)] w (.int .i64 ((a+js l a:Nat):Int)):=by
  have t0:decide ((a:Int)<0)=false:=by simp
  have t1:decide ((l.length:Int)<(a:Int))=false:=by simp;omega
  go_enter Tryz.func166,Tryz.ntmps166
  go_wp2_with (first
    | (go_at_call 144;refine(FY _).mono ?_;rintro e w1 ⟨b,rfl,hm1,hb1⟩;have H1:=aa (ac hm1 hb1);clear hm1 hb1))
  go_loopw [1] (fun i wr=>∃k:Nat,a+k≤l.length∧i=.int .i64 ((a+k:Nat):Int)∧eI wr w.heap.size b (fY (l.drop a) k).1 (fY (l.drop a) k).2 k∧Below w.heap.size w wr∧nt (gJ l a) (l.length-a-k) k=js l a) (fun i _=>l.length-(intOf i).toNat)
  case atStart=>exact⟨0,by omega,rfl,H1.out.1,H1.out.2,rfl⟩
  case round=>
    obtain⟨k,hk,rfl,hm,hb,he⟩:=hrel;have hbot:=kU (l.drop a) k;have hv:=sa (l.drop a) k;have hlen:=ji (l.drop a) k;have HR:=aa (ac hm (ac hb (ac hbot (ac hv (ac he hlen)))));clear hm hb hbot hv he hlen;generalize hn:a+k=n at *;have HN:=aa hn;clear hn;by_cases hlt:n<l.length
    ·have hi0:(0:Int)≤(n:Int):=by omega
     have hi1:(n:Int)<(l.length:Int):=by omega
     have hstop:gJ l a k=nu (fY (l.drop a) k).1 ((ByteArray.mk l.toArray)[n]'hlt):=by
       unfold gJ;rw[HN.out,lz,aE,ax hlt];rfl
     cases hs:gJ l a k
     ·have HS:=aa (ac (hstop.symm.trans hs) hs);clear hs hstop
      go_wp2_with (first
        | (go_at_call 195;refine(GN w.heap.size b _ _ _ _ _ HR.out.1 HR.out.2.2.1.ne).mono ?_;rintro e w2 ⟨rfl,rfl⟩;rw[HS.out.1])
        | (go_at_call 145;refine(Bq w.heap.size b _ _ _ _ _ HR.out.1 HR.out.2.2.1 HR.out.2.2.2.1 (by have:=HR.out.2.2.2.2.2;have:=HN.out;omega) (by omega) (by have:=HN.out;omega)).mono ?_;rintro e w2 ⟨rfl,hm2,hb2⟩;have H2:=aa (ac hm2 hb2);clear hm2 hb2))
      obtain⟨hm2,hb2⟩:=H2.out;have hn:=HN.out;have e:fY (l.drop a) (k+1)=eG (fY (l.drop a) k).1 (fY (l.drop a) k).2 ((ByteArray.mk l.toArray)[n]'hlt) k:=EV l a k n hn hlt;rw[←e] at hm2;refine⟨⟨k+1,by omega,by rw[←hn];go_num,by simpa using hm2,HR.out.2.1.trans hb2.b,?_⟩,by simp[intOf];omega⟩;rw[show l.length-a-(k+1)=l.length-a-k-1 by omega,←tg HS.out.2 (by omega)];exact HR.out.2.2.2.2.1
     ·have HS:=aa (ac (hstop.symm.trans hs) hs);clear hs hstop
      go_wp2_with (first
        | (go_at_call 195;refine(GN w.heap.size b _ _ _ _ _ HR.out.1 HR.out.2.2.1.ne).mono ?_;rintro e w2 ⟨rfl,rfl⟩;rw[HS.out.1]))
      go_ret;refine⟨jN ?_,HR.out.2.1⟩;rw[←HR.out.2.2.2.2.1,rK HS.out.2,HN.out]
    ·go_wp2;go_ret;refine⟨jN ?_,HR.out.2.1⟩;have hn:=HN.out;rw[←HR.out.2.2.2.2.1,show l.length-a-k=0 by omega];show (n:Int)=((a+k:Nat):Int);rw[hn]
section
open Go.RowKit
attribute [local go_sem] Oper.semAt_some
abbrev VL:={c:UInt8 // uM c=true}
theorem Gb (l Bn g c n₀:Nat) (X:Nat→Prop) (vs:List VL) (J Jx:List VL→World→Prop) (hY:∀pre x W,J pre W→pre.length<vs.length→YieldAt Fence.wide (n-1) Tryz.prog l #[.int .i64 (eH x.1)] W fun e W'=>
      (e=.returned (.bool true)∧J (pre++[x]) W'∧eN n₀ X W W')∨(e=.returned (.bool false)∧Jx (pre++[x]) W')) (W:World) (hBn:W.cell? ⟨Bn,0,none⟩=some (.slice (some ⟨g,0,none⟩) vs.length c)) (hBn0:Bn<n₀) (hg:g<n₀) (hx1:¬X Bn) (hx2:¬X g) (hcs:∀k (x:VL),vs.reverse[k]? = some x→W.cell? ⟨g,k*2,none⟩=some (.int .i64 (eH x.1))) (hlen:vs.length≤100000) (hc:vs.length≤c) (h0:J [] W) :
    CallsIn Fence.wide n Tryz.prog 228 #[.func (.yield l) #[] #[],.pointer (some ⟨Bn,0,none⟩)] W fun e W'=>(∃v,e=.returned v) ∧
      ((∃ys,ys=vs∧J ys W')∨(∃pre,pre<+:vs∧Jx pre W')):=by
  have HC:=aa hcs;clear hcs;refine dk Tryz.func228 rfl trivial ?_ rfl;simp only[Tryz.ntmps228,bU,aP,bI,Nat.reduceAdd,Nat.reduceSub,bE,bF,bV,bJ,bT,bu];gi_wp2;gi_loopw [3] (fun i wr=>∃k:Nat,k≤vs.length∧i=.int .i64 ((vs.length:Int)-1-k)∧eN n₀ X W wr∧J (vs.take k) wr) (fun i _=>(intOf i+1).toNat)
  case atStart=>exact⟨0,by omega,by simp,eN.refl _ _ _,h0⟩
  case round=>
    obtain⟨k,hk,rfl,hb,hJs⟩:=hrel;have hBn':=(hb.cell hBn0 hx1 0).trans hBn;by_cases hlt:k<vs.length
    ·obtain⟨x,hx⟩:∃x,vs[k]? = some x:=⟨_,ax hlt⟩;have hcell:wr.cell? ⟨g,(vs.length-1-k)*2,none⟩=some (.int .i64 (eH x.1)):=(hb.cell hg hx2 _).trans (HC.out _ x (by
       rw[List.getElem?_reverse (by omega)];rw[show vs.length-1-(vs.length-1-k)=k by omega];exact hx))
     have k1:(0:Int)≤(vs.length:Int)-1-k:=by omega
     have k2:(vs.length:Int)-1-k<(vs.length:Int):=by omega
     have k3:((vs.length:Int)-1-k).toNat=vs.length-1-k:=by omega
     have etk:vs.take (k+1)=vs.take k++[x]:=by
       obtain⟨h1,h2⟩:=ay.1 hx;rw[bM h1,h2]
     obtain⟨fn,tmps,assign,body,hy,hR⟩:=hY (vs.take k) x wr hJs (by rw[cm];omega);have HR:=aa (ac hb (ac hJs (ac hx etk)));clear hb hJs hx etk hBn h0 hY;gi_wp2;refine⟨fun h=>by simp[Fence.wide] at h,?_⟩;refine hR.mono ?_;rintro e W3 (⟨rfl,hJ3,hk3⟩|⟨rfl,hJx3⟩)
     ·have hJ4:=hJ3;rw[←HR.out.2.2.2] at hJ4;have H3:=aa (ac hJ4 (HR.out.1.trans hk3));clear hJ3 hk3 hJ4;gi_wp2;go_roundw
      case rel=>exact⟨k+1,by omega,by simp;omega,H3.out.2,H3.out.1⟩
      case measure=>simp[intOf];omega
     ·have hJ4:=hJx3;rw[←HR.out.2.2.2] at hJ4;have H3:=aa hJ4;clear hJx3 hJ4;gi_wp2;refine bn ?_;exact⟨⟨_,rfl⟩,.inr ⟨vs.take (k+1),List.take_prefix _ _,H3.out⟩⟩
    ·have e:k=vs.length:=by omega
     subst e;have HR:=aa hJs;clear hJs h0 hY;gi_wp2;go_end0;exact⟨⟨_,rfl⟩,.inl ⟨_,rfl,by have:=HR.out;rwa [bR (au _)] at this⟩⟩
theorem LM (v:Value) (w:World) (hv:∃A n c,v=.slice A n c) :
    Calls Tryz.prog 197 #[v] w fun e w'=>e=.returned (.func (.func 228) #[] #[.pointer (some ⟨w.heap.size,0,none⟩)])∧w'=w.alloc (.cells #[v] 151):=by
  obtain⟨A,n,c,rfl⟩:=hv;go_enter Tryz.func197,Tryz.ntmps197;go_wp2;go_ret;exact⟨rfl,rfl⟩
theorem Bi (c n₀:Nat) (X:Nat→Prop) (vs:List VL) (w:World) (hBn:Bn<w.heap.size) (hn₀:n₀≤w.heap.size) (hB0:Bn<n₀) (hg:g<n₀) (hx1:¬X Bn) (hx2:¬X g) (hc:w.cell? ⟨Bn,0,none⟩=some (.slice (some ⟨g,0,none⟩) vs.length c)) (hcs:∀k (x:VL),vs.reverse[k]? = some x→w.cell? ⟨g,k*2,none⟩=some (.int .i64 (eH x.1))) (hlen:vs.length≤100000) (hcap:vs.length≤c) :
    SeqStopsK Fence.wide n Tryz.prog 228 #[.pointer (some ⟨Bn,0,none⟩)] (fun x:VL=>#[Value.int .i64 (eH x.1)]) (eN n₀ X) (fun ys=>ys=vs) (fun pre=>pre<+:vs) vs.length w:=fun l J Jx W hW _ _ hY h0=>
  Gb n l Bn g c n₀ X vs J Jx hY W ((hW.cell (p:=⟨Bn,0,none⟩) hBn).trans hc) hB0 hg hx1 hx2 (fun k x hx=>(hW.cell (p:=⟨g,k*2,none⟩) (show g<w.heap.size by omega)).trans (hcs k x hx)) hlen hcap h0
def mj (pre:List VL):List UInt8:=pre.flatMap fun x=>mA x.1
theorem vD (pre:List VL) (x:VL):mj (pre++[x])=mj pre++mA x.1:=by simp[mj]
theorem FH (pre:List VL):(mj pre).length≤2*pre.length:=by
  induction pre with
  | nil=>simp[mj]
  | cons x r ih=>have:mj (x::r)=mA x.1++mj r:=rfl
                 rw[this,aH,aP];have:=zM x.1;omega
theorem od {pre:List VL} {x:VL} (h:W.ownsRow N 5 1 v ((mj pre).length+(ByteArray.mk (mA x.1).toArray).size) (fz (mj pre)++Lib.strCells ⟨(mA x.1).toArray⟩)) :
    W.ownsRow N 5 1 v (mj (pre++[x])).length (fz (mj (pre++[x]))):=by
  have e:fz (mj (pre++[x]))=fz (mj pre)++Lib.strCells ⟨(mA x.1).toArray⟩:=by rw[vD];unfold fz Lib.strCells;simp
  rw[e,vD,aH];exact h
theorem xj {l:List UInt8} (h:W.ownsRow N 5 1 v l.length (fz l)) :
    (Go.convert 63 9 v).run Tryz.prog W=.ok (.string ⟨l.toArray⟩) W:=by
  rcases h.2 with ⟨rfl,h0⟩|⟨g,cap,cur,rfl,_⟩
  ·obtain rfl:=bP h0;rw[run_convert_bytes_string W _ _ _ none 0 0 Tryz.underlying63 Tryz.underlying5 Tryz.underlying9];rfl
  ·refine run_convert_bytes_back (P:=Tryz.prog) W 63 9 5 ⟨g,0,none⟩ cap l Tryz.underlying63 Tryz.underlying5 Tryz.underlying9 ?_;intro j hj;rw[Addr.add_lit,cM];refine dW h j _ ?_;rw[fz,bc,ax hj];rfl
theorem MC (h:∀y∈st,uM y.1=true):∃vs:List VL,vs.map (·.1)=st.map (·.1)∧vs.length=st.length∧mj vs=Mc st:=by
  induction st with
  | nil=>exact⟨[],rfl,rfl,rfl⟩
  | cons y r ih=>
    obtain⟨vs,h1,h2,h3⟩:=ih (fun z hz=>h z (by simp[hz]));refine⟨⟨y.1,h y (by simp)⟩::vs,by simp[h1],by simp[h2],?_⟩;show mA y.1++mj vs=_;rw[h3];rfl
theorem DK (hl:l.length≤900) :
    jL 167 #[.string ⟨l.toArray⟩] w (.string ⟨(Mc (fY l l.length).1).toArray⟩):=by
  obtain⟨vs,hv1,hv2,hv3⟩:=MC (fY l l.length).1 (sa l l.length).all;have hvl:vs.length≤901:=by rw[hv2];have:=ji l l.length;omega
  have HV:=aa (ac hv1 (ac hv2 hv3));clear hv1 hv2 hv3;have hmix:Tryz.prog.follows .mixedOrders=true:=by kernel_rfl
  obtain⟨i0,hi,hz0,hz1,hz2⟩:=cD Tryz.infoByte;refine(aU (n:=5)).1 ?_;refine callsIn_of_wp_marks Tryz.func167 rfl trivial ?_ rfl;simp only[Tryz.ntmps167,bU,aP,bI,Nat.reduceAdd,Nat.reduceSub,bE,bF,bV,bJ,bT,bu]
  gi_wp2_with (first
    | (refine⟨trivial,?_⟩;gi_at_call 196;refine(aU.2 (MJ l _ (by omega))).mono ?_;rintro e w1 ⟨g,c,rfl,hfr,hb1⟩;unfold Fr at hfr;rw[←HV.out.2.1] at hfr ⊢;have H1:=aa (ac hfr hb1);clear hfr hb1)
    | (refine⟨trivial,?_⟩;gi_at_call 197;refine(aU.2 (LM _ _ ⟨_,_,_,rfl⟩)).mono ?_;rintro e w2 ⟨rfl,rfl⟩))
  obtain⟨W0,hW0⟩:∃W0,(w1.alloc (.cells #[.slice none 0 0] 63)).alloc (.cells #[.slice (some ⟨g,0,none⟩) vs.length c] 151)=W0:=⟨_,rfl⟩;have bO:Boxed W0 w1.heap.size 63 (.slice none 0 0):=by rw[←hW0];exact(Boxed.new w1 _ _).alloc _
  have bL:Boxed W0 (w1.heap.size+1) 151 (.slice (some ⟨g,0,none⟩) vs.length c):=by rw[←hW0];have:=Boxed.new (w1.alloc (.cells #[.slice none 0 0] 63)) 151 (.slice (some ⟨g,0,none⟩) vs.length c);rwa [aV] at this
  have hs0:W0.heap.size=w1.heap.size+2:=by rw[←hW0];simp
  have hb0:Below w1.heap.size w1 W0:=by rw[←hW0];exact((aC _ w1).alloc (au _) _).alloc (by simp) _
  obtain⟨hfr,hb1⟩:=H1.out;obtain⟨_,hcap,_,_,hgl⟩:=gM hfr;have hfr0:=dS hfr hb0;have hbw:Below w.heap.size w W0:=hb1.trans (hb0.mono hb1.size);have hcs:∀k (x:VL),vs.reverse[k]? = some x→W0.cell? ⟨g,k*2,none⟩=some (.int .i64 (eH x.1)):=by
    intro k x hx;have e:(fY l l.length).1.reverse.map (·.1)=vs.reverse.map (·.1):=by rw[List.map_reverse,List.map_reverse,HV.out.1]
    have hk:((fY l l.length).1.reverse.map (·.1))[k]? = some x.1:=by rw[e,bc,hx];rfl
    rw[bc] at hk
    cases hp:(fY l l.length).1.reverse[k]? with
    | none=>rw[hp] at hk;cases hk
    | some y=>
      rw[hp] at hk;simp at hk;obtain⟨d,p⟩:=y;simp at hk;subst hk;exact dW hfr0 _ _ (vM _ k _ p hp).1
  rw[hW0];clear hW0;have hwo:w.heap.size≤w1.heap.size:=hb1.size;have HW:=aa (ac hbw (ac hb1 hfr0));clear hfr hb1 hfr0 hbw hb0
  refine wpIn_rangeFunc_ownG rfl (by omega) (gf:=228) (lb:=#[.pointer (some ⟨w1.heap.size+1,0,none⟩)]) rfl trivial (enters_of Tryz.func228 (by kernel_rfl) rfl)
    (Bi (5-1) (w1.heap.size+1) g c W0.heap.size (· = w1.heap.size) vs W0 (by omega) (au _) (by omega) (by omega) (by omega) (by omega) bL.cell hcs (by omega) hcap) (fun h k=>h.trans k) (fun W l o o' hl h1 h2 h3=>oJ W l o o' hl h1 h2 h3) (aC _ _) (fun _=>rfl)
    (fun pre W=>(∃v,Boxed W w1.heap.size 63 v∧W.ownsRow W0.heap.size 5 1 v (mj pre).length (fz (mj pre))∧True)∧Below w.heap.size w W∧W0.heap.size≤W.heap.size)
    (fun _ _ _=>False)
    (OwnFrom.and (Own.from (holdsRow_own W0.heap.size w1.heap.size 63 5 1 (fun pre=>(mj pre).length) (fun pre=>fz (mj pre)) (fun pre v=>True)) _) (OwnFrom.and (ownFrom_below (au _) (by omega)) (ql _ _)))
    (fun _ _ _ _ _ hs _ _=>hs)
    ⟨⟨_,bO,cj _ _ _ _,trivial⟩,HW.out.1,au _⟩
    (fun x=>{tmps:=#[.string ⟨l.toArray⟩,undef,.string ⟨#[]⟩,.slice (some ⟨g,0,none⟩) vs.length c,.bool (fY l l.length).2,.pointer (some ⟨w1.heap.size,0,none⟩),.int .i64 (eH x.1),
      .tuple #[.slice (some ⟨g,0,none⟩) vs.length c,.bool (fY l l.length).2],.string ⟨l.toArray⟩,.tuple #[.slice (some ⟨g,0,none⟩) vs.length c,.bool (fY l l.length).2],.slice (some ⟨g,0,none⟩) vs.length c,.bool (fY l l.length).2,
      .slice (some ⟨g,0,none⟩) vs.length c,.func (.func 228) #[] #[.pointer (some ⟨w1.heap.size+1,0,none⟩)],.int .i64 (eH x.1),undef,undef,undef,undef,undef,undef],defers:=[]}) ?assign ?body ?done ?stop
  case assign=>
    intro l x W K hK;gi_wp2;exact hK
  case body=>
    rintro l pre x W ⟨⟨v,hv,hrow,_⟩,hB,hS⟩ hlt;have hc:=hv.cell;have hf:=hv.frozen;gi_wp2_with fail;have hlb:(mj pre).length≤2*pre.length:=FH pre;have hsz:(ByteArray.mk (mA x.1).toArray).size≤2:=zM x.1;refine wpIn_region_any hmix ?_;refine wpAnyIn_ready (rs:=[0,1]) (by kernel_rfl) (by simp) ?_;refine AllReadyIn.cons rfl (fun K hK=>?_) (AllReadyIn.cons rfl (fun K hK=>?_) AllReadyIn.nil)
    ·go_simp;refine hK _ _ ?_;clear hK K;refine wpAnyIn_ready (rs:=[1]) (by kernel_rfl) (by simp) ?_;refine AllReadyIn.cons rfl (fun K hK=>?_) AllReadyIn.nil;go_simp;refine hK _ _ ?_;clear hK K;refine wpAnyIn_ready (rs:=[2]) (by kernel_rfl) (by simp) ?_;refine AllReadyIn.cons rfl (fun K hK=>?_) AllReadyIn.nil;go_simp;refine⟨trivial,(qK (uH x.1 _ x.2)).mono ?_⟩;rintro e w2 ⟨rfl,rfl⟩;refine hK _ _ ?_;clear hK K;refine wpAnyIn_ready (rs:=[3]) (by kernel_rfl) (by simp) ?_;refine AllReadyIn.cons rfl (fun K hK=>?_) AllReadyIn.nil;refine je rfl (.tmp 15) (.tmp 17) 63 9 rfl W0.heap.size 5 i0 Tryz.underlying63 Tryz.underlying9 hi hz0 hz1 hz2 v _ _ rfl (fy hrow) ⟨(mA x.1).toArray⟩ rfl (by unfold maxLen;omega) (by omega) hS ?_;intro v3 w3 hown3 hg3;have hW1:Below W.heap.size W W.drew:=dN (aC _ _) 1;have hv3:=oQ hv (by decide) hrow hW1 hg3;have hc3:=hv3.cell;have hf3:=hv3.frozen;obtain⟨A3,n3,c3,rfl⟩:=dR hown3;have H3:=aa (ni (M:=W0.heap.size) hv (by decide) hrow hS (by omega) hW1 hg3 hown3);clear hown3 hg3 hv3 hW1;refine hK _ _ ?_;clear hK K;refine wpAnyIn_ready (rs:=[4]) (by kernel_rfl) (by simp) ?_;refine AllReadyIn.cons rfl (fun K hK=>?_) AllReadyIn.nil;go_simp;refine hK _ _ ?_;clear hK K;refine wpAnyIn_done (by kernel_rfl) ?_ _;gi_wp2;obtain⟨q1,q2,q3,q4,q5,q6⟩:=H3.out;exact⟨q1,q2,⟨_,q3,od q4,trivial⟩,hB.trans (q5 _ hwo),q6⟩
    ·go_simp;refine hK _ _ ?_;clear hK K;refine wpAnyIn_ready (rs:=[0,2]) (by kernel_rfl) (by simp) ?_;refine AllReadyIn.cons rfl (fun K hK=>?_) (AllReadyIn.cons rfl (fun K hK=>?_) AllReadyIn.nil)
     ·go_simp;refine hK _ _ ?_;clear hK K;refine wpAnyIn_ready (rs:=[2]) (by kernel_rfl) (by simp) ?_;refine AllReadyIn.cons rfl (fun K hK=>?_) AllReadyIn.nil;go_simp;refine⟨trivial,(qK (uH x.1 _ x.2)).mono ?_⟩;rintro e w2 ⟨rfl,rfl⟩;refine hK _ _ ?_;clear hK K;refine wpAnyIn_ready (rs:=[3]) (by kernel_rfl) (by simp) ?_;refine AllReadyIn.cons rfl (fun K hK=>?_) AllReadyIn.nil;refine je rfl (.tmp 15) (.tmp 17) 63 9 rfl W0.heap.size 5 i0 Tryz.underlying63 Tryz.underlying9 hi hz0 hz1 hz2 v _ _ rfl (fy hrow) ⟨(mA x.1).toArray⟩ rfl (by unfold maxLen;omega) (by omega) hS ?_;intro v3 w3 hown3 hg3;have hW1:Below W.heap.size W W.drew:=dN (aC _ _) 1;have hv3:=oQ hv (by decide) hrow hW1 hg3;have hc3:=hv3.cell;have hf3:=hv3.frozen;obtain⟨A3,n3,c3,rfl⟩:=dR hown3;have H3:=aa (ni (M:=W0.heap.size) hv (by decide) hrow hS (by omega) hW1 hg3 hown3);clear hown3 hg3 hv3 hW1;refine hK _ _ ?_;clear hK K;refine wpAnyIn_ready (rs:=[4]) (by kernel_rfl) (by simp) ?_;refine AllReadyIn.cons rfl (fun K hK=>?_) AllReadyIn.nil;go_simp;refine hK _ _ ?_;clear hK K;refine wpAnyIn_done (by kernel_rfl) ?_ _;gi_wp2;obtain⟨q1,q2,q3,q4,q5,q6⟩:=H3.out;exact⟨q1,q2,⟨_,q3,od q4,trivial⟩,hB.trans (q5 _ hwo),q6⟩
     ·go_simp;refine⟨trivial,(qK (uH x.1 _ x.2)).mono ?_⟩;rintro e w2 ⟨rfl,rfl⟩;refine hK _ _ ?_;clear hK K;refine wpAnyIn_ready (rs:=[0]) (by kernel_rfl) (by simp) ?_;refine AllReadyIn.cons rfl (fun K hK=>?_) AllReadyIn.nil;go_simp;refine hK _ _ ?_;clear hK K;refine wpAnyIn_ready (rs:=[3]) (by kernel_rfl) (by simp) ?_;refine AllReadyIn.cons rfl (fun K hK=>?_) AllReadyIn.nil;refine je rfl (.tmp 15) (.tmp 17) 63 9 rfl W0.heap.size 5 i0 Tryz.underlying63 Tryz.underlying9 hi hz0 hz1 hz2 v _ _ rfl (fy hrow) ⟨(mA x.1).toArray⟩ rfl (by unfold maxLen;omega) (by omega) hS ?_;intro v3 w3 hown3 hg3;have hW1:Below W.heap.size W W.drew:=dN (aC _ _) 1;have hv3:=oQ hv (by decide) hrow hW1 hg3;have hc3:=hv3.cell;have hf3:=hv3.frozen;obtain⟨A3,n3,c3,rfl⟩:=dR hown3;have H3:=aa (ni (M:=W0.heap.size) hv (by decide) hrow hS (by omega) hW1 hg3 hown3);clear hown3 hg3 hv3 hW1;refine hK _ _ ?_;clear hK K;refine wpAnyIn_ready (rs:=[4]) (by kernel_rfl) (by simp) ?_;refine AllReadyIn.cons rfl (fun K hK=>?_) AllReadyIn.nil;go_simp;refine hK _ _ ?_;clear hK K;refine wpAnyIn_done (by kernel_rfl) ?_ _;gi_wp2;obtain⟨q1,q2,q3,q4,q5,q6⟩:=H3.out;exact⟨q1,q2,⟨_,q3,od q4,trivial⟩,hB.trans (q5 _ hwo),q6⟩
  case done=>
    rintro D ys W hD rfl ⟨⟨v,hv,hrow,hnil⟩,hB,hS⟩ hK;have hc:=hv.cell;have hbk:=belowK_b (w:=w) (au _) W D (.deferred (some [])) (.deferred none) (by omega) hK rfl rfl;have hcv:=xj hrow;obtain⟨A,n,c,rfl⟩:=dR hrow;have HD:=aa (ac hB hbk);clear hB hbk hrow;gi_wp2;refine⟨by simp,.inl ⟨_,_,rfl,run_takeDeferred hK,?_⟩⟩;refine⟨_,dv rfl _ _ _,?_,HD.out.1.trans HD.out.2⟩;rw[HV.out.2.2];rfl
  case stop=>
    rintro D c pre W _ _ h _;exact h.elim
end
end Go.Proofs.YtcagfamdoaoimaaGreatDoor
