/- The parser: a node is made. -/
import Derived.Test.YtmclohkaiemnaaaGreatDoorMb13
import Derived.Shelf.Abstract
import Derived.Deep.CutBlock
set_option linter.unusedVariables false
set_option linter.unusedSimpArgs false
set_option maxRecDepth 100000
set_option maxHeartbeats 8000000
namespace Go.Proofs.YtmclohkaiemnaaaGreatDoor
section
open Go.RowKit
theorem Tryz.infoNode:(Tryz.prog.info? 52).map (fun i=>(i.zero,i.size,i.bytes))=some (some (.agg #[.int .i64 0,.int .i64 0,.int .i64 0,.int .i64 0]),4,32):=by kernel_rfl
def fG (k:Nat) (s:Ps):Ps:={s with l:=s.l++[⟨k,s.p,0,s.up⟩],up:=(s.l.length:Int)}
theorem rC {g:Nat} {fv:Value} {F:List Lf} {s t:Ps} {W:World} (k fn:Nat) (pre cap:Array Value) (h:Mk g fv F s W) (hl:s.l.length≤50000) (hk:k≤18)
    (eg:∀args w,(callFunc fn args).run Tryz.prog w=.ok (.enter fn args) w)
    (hf:∀W1,Mz g fv F W (fG k s) W1→Calls Tryz.prog fn (pre++cap) W1 fun e w'=>e=.returned (.tuple #[])∧Mz g fv F W1 t w') (ht:s.l.length<t.l.length) (hp:t.p≤100000) :
    Calls Tryz.prog 51 #[.pointer (some ⟨g,0,none⟩),.int .i64 (k:Int),.func (.func fn) pre cap] W fun e w'=>e=.returned (.tuple #[])∧Mz g fv F W {t with up:=s.up,l:=ik t.l s.l.length t.p} w':=by
  obtain⟨i0,hi0,hz0,hz1,hz2⟩:=cL Tryz.infoNode;obtain⟨lv,hb,ho⟩:=h.w;obtain⟨A,n,c,rfl⟩:=eA ho;obtain rfl:=ff ho;obtain⟨c0,c1,c2,c3,c4⟩:=hb.fivem;have f2:=hb.frozen 2;have H0:=ac (ae h (ae hb (ae ho h.f)));have HF:=ac hf;have hne:(Value.slice A s.l.length c).ownBlock≠some g:=eP ho hb (by decide);have hgl:=hb.lt;clear hf h hb ho;go_enter Tryz.func51,Tryz.ntmps51;go_wp2;go_quiet (fail);go_wp2;have H1:=ac ((Mz.start H0.out.1).drew nq);have b1:Bk (W.drewN nq) g 78 _:=H0.out.2.1;have o1:(W.drewN nq).ownsRow g 52 4 (.slice A s.l.length c) s.l.length (fm s.l):=H0.out.2.2.1;have r1:Rd (W.drewN nq) g 4 fv F.length (gv F):=H0.out.2.2.2;have g1:g<(W.drewN nq).heap.size:=hgl;have H2:=ac (ae b1 (ae o1 r1));have HW:=ac (rfl:W.heap.size=(W.drewN nq).heap.size);clear c0 c1 c2 c3 c4 f2 b1 o1 r1 hgl;generalize W.drewN nq=W1 at *;obtain⟨c0,c1,c2,c3,c4⟩:=H2.out.1.fivem;have f2:=H2.out.1.frozen 2
  go_region_law (first
    | (refine gr rfl (.tmp 21) (.tmp 29) 25 rfl g 52 i0 _ 4 32 Tryz.underlying25 hi0 hz0 hz1 hz2 rfl (by decide) (.slice A s.l.length c) s.l.length (fm s.l) (by simp[Act.eval]) (H2.out.2.1.alloc _) (.slice (some ⟨W1.heap.size,0,none⟩) 1 1) 1 (W1.heap.size+1) (fm [⟨k,s.p,0,s.up⟩]) (by simp[Act.eval]) (Rd.drew (iK W1 (fm [⟨k,s.p,0,s.up⟩]) 52 4 1 rfl (by omega))) (rp _) (by unfold maxLen;omega) (by omega) (by simp;omega) ?_;intro v1 w1 hown1 hg1 hv1;obtain⟨gn,cn,rfl⟩:=gS hown1;have kk:=(H2.out.1.alloc (.cells #[.int .i64 (k:Int),.int .i64 (s.p:Int),.int .i64 0,.int .i64 s.up] 52)).drew.grown hg1 (fun e=>hne e.symm);have y0:=kk.cell 2;have y1:=kk.frozen 2;have H3:=ac (ae hown1 hg1);clear hown1 hg1 hv1 kk))
  all_goals (
    have hbA:Below W1.heap.size W1 (W1.alloc (.cells #[.int .i64 (k:Int),.int .i64 (s.p:Int),.int .i64 0,.int .i64 s.up] 52)).drew:=((ay _ W1).alloc (au _) _).drew;have hp:=Mk.push (x:=⟨k,s.p,0,s.up⟩) (H2.out.1.below hbA g1) (eC H2.out.2.1 hbA) (H2.out.2.2.keep (hbA.mono (aM g1)) (au _)) H3.out.1 H3.out.2;have H4:=ac (Mz.mk (W:=W) hp.1 ((H1.out.next hbA).f.trans hp.2));clear y0 y1 hp hbA H3 c0 c1 c2 c3 c4 f2;generalize w1.setCell {block:=g,off:=2} (Value.slice (some {block:=gn,off:=0}) (s.l.length+1) cn)=W3 at *;obtain⟨c0,c1,c3,c4,f1,f2,f3,f4⟩:=H4.out.m.cells)
  all_goals (
    go_wp2_with (
      (have H5:Mz g fv F W (fG k s) _:=H4.out.setUp (s.l.length:Int);with_reducible refine(HF.out _ H5).mono ?_
       rintro e w5 ⟨rfl,hz⟩;have H6:=ac (H5.then hz);obtain⟨d0,d1,d3,d4,e1,e2,e3,e4⟩:=hz.m.cells;clear hz H5)))
  all_goals (
    have H7:=ac (H6.out.setUp s.up);clear d0 d1 d3 d4 e1 e2 e3 e4 c0 c1 c3 c4 f1 f2 f3 f4;generalize w5.setCell {block:=g,off:=3} (Value.int IntKind.i64 s.up)=W7 at *;obtain⟨m,hm⟩:∃m,t.l.length=m+1:=⟨t.l.length-1,by omega⟩;obtain⟨lv,kb,ko⟩:=H7.out.m.w;have kr:=H7.out.m.f;obtain⟨ga,ca,rfl⟩:∃ga ca,lv=.slice (some ⟨ga,0,none⟩) t.l.length ca:=by
      rw[show ({t with up:=s.up}:Ps).l.length=m+1 from hm] at ko;obtain⟨ga,ca,e⟩:=gS ko;exact⟨ga,ca,by rw[hm];exact e⟩
    obtain⟨d0,d1,d2,d3,d4⟩:=kb.fivem;replace d1:W7.cell? ⟨g,1,none⟩=some (.int .i64 (t.p:Int)):=d1;have x1:=fZ ko (s.l.length*4+2);obtain⟨v0,hv0⟩:∃v0,(fm t.l)[s.l.length*4+2]? = some v0:=⟨_,ax (by rw[lg];omega)⟩;have x2:=eM ko _ _ hv0;have u1:(s.l.length:Int)<(t.l.length:Int):=by omega
    have u2:(0:Int)≤(s.l.length:Int):=by omega
    have HT:=ac (Mk.setTo kb ko kr s.l.length t.p ht);clear hm kb ko kr hp hv0)
  all_goals go_region
  all_goals go_wp2_with fail
  all_goals go_end0
  all_goals exact⟨rfl,(Mz.mk (W:=W) HT.out.1 (H7.out.f.trans HT.out.2)).next (ay _ _).drew⟩
section
variable {P:Program} {md:Region.Mode} {ops:Array Oper} {Q:Exit→Act→World→Prop}
theorem nY {S:World→Prop} {K:Nat→Act→World→Prop} {a:Act} {w:World}:∀i∈([]:List Nat),wpOp P ops Q i (K i) a w:=fun _ h=>by cases h
theorem nX {S:World→Prop} {fuel:Nat} {listed:Array Bool} {a:Act} {w:World} {i:Nat} {o:Oper} {rs:List Nat} (ho:ops[i]? = some o) (hw:Region.wanted o (yielded ops a.tmps)=true)
    (h:∀K':Act→World→Prop,(∀a' w',S w'→wpAnyH P md ops Q S fuel (listed.setIfInBounds i true) a' w'→K' a' w')→o.wp P a w K' Q)
    (hs:∀j∈rs,wpOp P ops Q j (fun a' w'=>S w'∧wpAnyH P md ops Q S fuel (listed.setIfInBounds j true) a' w') a w) :
    ∀j∈i::rs,wpOp P ops Q j (fun a' w'=>S w'∧wpAnyH P md ops Q S fuel (listed.setIfInBounds j true) a' w') a w:=by
  intro j hj;rcases bj.1 hj with rfl|hj
  ·unfold wpOp;simp only[ho];rw[aB hw];exact .inl (h _ fun a' w' h1 h2=>⟨h1,h2⟩)
  ·exact hs j hj
end
theorem tT {g:Nat} {fv:Value} {F:List Lf} {s:Ps} {W:World} (hF:FB F) (h:Mk g fv F s W) (hs:s.p≤F.length) :
    jJ 145 #[.pointer (some ⟨g,0,none⟩)] W (.bool (lD F s)):=by
  have hmix:Tryz.prog.follows .mixedOrders=true:=by kernel_rfl
  have c0:=fun W (h:Mk g fv F s W)=>ny hF h hs 0 s.p (by omega) (.inl rfl)
  have c1:=fun W (h:Mk g fv F s W)=>ny hF h hs 1 (s.p+1) (by omega) (.inr rfl)
  have hlx:sg F s.p=120→s.p<F.length:=fun e=>oV (by rw[e];decide)
  have htx:∀x,F[s.p]? = some x→tx F s.p=x.tx:=fun x hx=>by unfold tx;rw[hx]
  unfold lD;obtain⟨a,ha⟩:∃a,a=sg F s.p:=⟨_,rfl⟩;obtain⟨b,hb⟩:∃b,b=sg F (s.p+1):=⟨_,rfl⟩;rw[←ha] at hlx c0 ⊢;rw[←hb] at c1 ⊢;clear ha hb;have k1:((a.toNat:Int)==120)=(a==120):=iT a 120;have k2:((b.toNat:Int)==40)=(b==40):=iT b 40;have hlx:(a==120)=true→s.p<F.length:=fun e=>hlx (by simpa using e)
  generalize (a==120)=x1 at *;generalize (b==40)=x2 at *;obtain⟨y0,y1,y3,y4,_⟩:=h.cells;obtain⟨A,c,rfl⟩:=h.f.formm;have HC:=ac (ae c0 (ae c1 h));clear c0 c1;obtain⟨R,hR⟩:∃R,R=(x1&&(x2&&(decide (s.deep<200)&&iC (tx F s.p)))):=⟨_,rfl⟩;rw[←hR];have HR:=ac hR;clear hR;go_enter Tryz.func145,Tryz.ntmps145;go_wp2_with fail;obtain⟨S0,hS0⟩:∃S0:World→Prop,S0=fun w'=>Below W.heap.size W w':=⟨_,rfl⟩
  refine wp_region_held (S:=S0) hmix ?_;show wpAnyH _ _ _ _ _ _ _ _ W.drew;have hS1:S0 W.drew:=by rw[hS0];exact(ay _ W).drew
  have tc:∀(w':World),S0 w'→∀(a:Addr) (v:Value),W.cell? a=some v→w'.cell? a=some v:=fun w' h a v hc=>jc (by rw[hS0] at h;exact h) hc
  refine tk 0 (.pointer (some ⟨g,0,none⟩)) hS1 (fun w' hS=>?_) ?_
  ·go_simp
  try simp only[Act.put,am,ai,aj,aa,an,ar]
  refine wpAnyH_all (rs:=[1]) (by decide +kernel) (by simp) (nX rfl (by rfl) (fun K2 hK2=>?_) (nY (S:=S0)));go_simp;go_at_call 61;refine(HC.out.1 _ (HC.out.2.2.next (ay _ W).drew).1).mono ?_;rintro e w1 ⟨rfl,hb⟩;have H1:=ac ((ay _ W).drew.trans hb);clear hb;have hS2:S0 w1:=by rw[hS0];exact H1.out
  refine hK2 _ _ hS2 ?_;clear hK2 K2;try simp only[Act.put,am,ai,aj,aa,an,ar]
  cases x1
  ·clear h hlx htx;refine tk 2 (.bool false) hS2 (fun w' hS=>?_) ?_
   ·go_simp
   try simp only[Act.put,am,ai,aj,aa,an,ar]
   refine tk 3 (.bool false) hS2 (fun w' hS=>?_) ?_
   ·go_simp
   try simp only[Act.put,am,ai,aj,aa,an,ar]
   refine sk 4 hS2 ?_;try simp only[Act.put,am,ai,aj,aa,an,ar]
   refine sk 5 hS2 ?_;try simp only[Act.put,am,ai,aj,aa,an,ar]
   refine sk 6 hS2 ?_;try simp only[Act.put,am,ai,aj,aa,an,ar]
   refine tk 7 (.bool false) hS2 (fun w' hS=>?_) ?_
   ·go_simp
   try simp only[Act.put,am,ai,aj,aa,an,ar]
   refine tk 8 (.bool false) hS2 (fun w' hS=>?_) ?_
   ·go_simp
   try simp only[Act.put,am,ai,aj,aa,an,ar]
   refine sk 9 hS2 ?_;try simp only[Act.put,am,ai,aj,aa,an,ar]
   refine sk 10 hS2 ?_;try simp only[Act.put,am,ai,aj,aa,an,ar]
   refine sk 11 hS2 ?_;try simp only[Act.put,am,ai,aj,aa,an,ar]
   refine sk 12 hS2 ?_;try simp only[Act.put,am,ai,aj,aa,an,ar]
   refine sk 13 hS2 ?_;try simp only[Act.put,am,ai,aj,aa,an,ar]
   refine tk 14 (.bool false) hS2 (fun w' hS=>?_) ?_
   ·go_simp
   try simp only[Act.put,am,ai,aj,aa,an,ar]
   refine tk 15 (.bool false) hS2 (fun w' hS=>?_) ?_
   ·go_simp
   try simp only[Act.put,am,ai,aj,aa,an,ar]
   refine sk 16 hS2 ?_;try simp only[Act.put,am,ai,aj,aa,an,ar]
   refine sk 17 hS2 ?_;try simp only[Act.put,am,ai,aj,aa,an,ar]
   refine sk 18 hS2 ?_;try simp only[Act.put,am,ai,aj,aa,an,ar]
   refine sk 19 hS2 ?_;try simp only[Act.put,am,ai,aj,aa,an,ar]
   refine sk 20 hS2 ?_;try simp only[Act.put,am,ai,aj,aa,an,ar]
   refine sk 21 hS2 ?_;try simp only[Act.put,am,ai,aj,aa,an,ar]
   refine sk 22 hS2 ?_;try simp only[Act.put,am,ai,aj,aa,an,ar]
   refine sk 23 hS2 ?_;try simp only[Act.put,am,ai,aj,aa,an,ar]
   refine sk 24 hS2 ?_;try simp only[Act.put,am,ai,aj,aa,an,ar]
   refine sk 25 hS2 ?_;try simp only[Act.put,am,ai,aj,aa,an,ar]
   refine sk 26 hS2 ?_;try simp only[Act.put,am,ai,aj,aa,an,ar]
   refine sk 27 hS2 ?_;try simp only[Act.put,am,ai,aj,aa,an,ar]
   refine tk 28 (.bool false) hS2 (fun w' hS=>?_) ?_
   ·go_simp
   try simp only[Act.put,am,ai,aj,aa,an,ar]
   refine tk 29 (.bool false) hS2 (fun w' hS=>?_) ?_
   ·go_simp
   try simp only[Act.put,am,ai,aj,aa,an,ar]
   refine wpAnyH_done (by decide +kernel) ?_ _;go_wp2_with fail;go_ret;exact⟨by rw[show R=false from HR.out];rfl,H1.out⟩
  ·have hlt:=hlx rfl;obtain⟨x,hx⟩:∃x,F[s.p]? = some x:=⟨_,ax hlt⟩;have htx:=htx x hx;have htl:=hF.t x (aI hx);obtain⟨g1,o1,rfl,z0,z1,z2,z3⟩:=gZ h.f hx rfl;have u1:(s.p:Int)<(F.length:Int):=by omega
   have u2:(0:Int)≤(s.p:Int):=by omega
   have hn:=fun W=>tJ x.tx W (by omega)
   rw[htx] at HR;generalize iC x.tx=nb at *;have HN:=ac hn;clear h hlx htx hx htl hn hlt z0 z2 z3;refine tk 2 (.bool true) hS2 (fun w' hS=>?_) ?_
   ·go_simp
   try simp only[Act.put,am,ai,aj,aa,an,ar]
   refine tk 3 (.bool true) hS2 (fun w' hS=>?_) ?_
   ·go_simp
   try simp only[Act.put,am,ai,aj,aa,an,ar]
   refine tk 4 (.pointer (some ⟨g,0,none⟩)) hS2 (fun w' hS=>?_) ?_
   ·go_simp
   try simp only[Act.put,am,ai,aj,aa,an,ar]
   refine wpAnyH_all (rs:=[5]) (by decide +kernel) (by simp) (nX rfl (by rfl) (fun K2 hK2=>?_) (nY (S:=S0)));go_simp;go_at_call 61;refine(HC.out.2.1 _ (HC.out.2.2.next H1.out).1).mono ?_;rintro e w2 ⟨rfl,hb⟩;have H2:=ac (H1.out.trans (hb.mono H1.out.size));clear hb;have hS3:S0 w2:=by rw[hS0];exact H2.out
   refine hK2 _ _ hS3 ?_;clear hK2 K2;try simp only[Act.put,am,ai,aj,aa,an,ar]
   cases x2
   ·refine tk 6 (.bool false) hS3 (fun w' hS=>?_) ?_
    ·go_simp
    try simp only[Act.put,am,ai,aj,aa,an,ar]
    refine tk 7 (.bool false) hS3 (fun w' hS=>?_) ?_
    ·go_simp
    try simp only[Act.put,am,ai,aj,aa,an,ar]
    refine tk 8 (.bool false) hS3 (fun w' hS=>?_) ?_
    ·go_simp
    try simp only[Act.put,am,ai,aj,aa,an,ar]
    refine sk 9 hS3 ?_;try simp only[Act.put,am,ai,aj,aa,an,ar]
    refine sk 10 hS3 ?_;try simp only[Act.put,am,ai,aj,aa,an,ar]
    refine sk 11 hS3 ?_;try simp only[Act.put,am,ai,aj,aa,an,ar]
    refine sk 12 hS3 ?_;try simp only[Act.put,am,ai,aj,aa,an,ar]
    refine sk 13 hS3 ?_;try simp only[Act.put,am,ai,aj,aa,an,ar]
    refine tk 14 (.bool false) hS3 (fun w' hS=>?_) ?_
    ·go_simp
    try simp only[Act.put,am,ai,aj,aa,an,ar]
    refine tk 15 (.bool false) hS3 (fun w' hS=>?_) ?_
    ·go_simp
    try simp only[Act.put,am,ai,aj,aa,an,ar]
    refine sk 16 hS3 ?_;try simp only[Act.put,am,ai,aj,aa,an,ar]
    refine sk 17 hS3 ?_;try simp only[Act.put,am,ai,aj,aa,an,ar]
    refine sk 18 hS3 ?_;try simp only[Act.put,am,ai,aj,aa,an,ar]
    refine sk 19 hS3 ?_;try simp only[Act.put,am,ai,aj,aa,an,ar]
    refine sk 20 hS3 ?_;try simp only[Act.put,am,ai,aj,aa,an,ar]
    refine sk 21 hS3 ?_;try simp only[Act.put,am,ai,aj,aa,an,ar]
    refine sk 22 hS3 ?_;try simp only[Act.put,am,ai,aj,aa,an,ar]
    refine sk 23 hS3 ?_;try simp only[Act.put,am,ai,aj,aa,an,ar]
    refine sk 24 hS3 ?_;try simp only[Act.put,am,ai,aj,aa,an,ar]
    refine sk 25 hS3 ?_;try simp only[Act.put,am,ai,aj,aa,an,ar]
    refine sk 26 hS3 ?_;try simp only[Act.put,am,ai,aj,aa,an,ar]
    refine sk 27 hS3 ?_;try simp only[Act.put,am,ai,aj,aa,an,ar]
    refine tk 28 (.bool false) hS3 (fun w' hS=>?_) ?_
    ·go_simp
    try simp only[Act.put,am,ai,aj,aa,an,ar]
    refine tk 29 (.bool false) hS3 (fun w' hS=>?_) ?_
    ·go_simp
    try simp only[Act.put,am,ai,aj,aa,an,ar]
    refine wpAnyH_done (by decide +kernel) ?_ _;go_wp2_with fail;go_ret;exact⟨by rw[show R=false from HR.out];rfl,H2.out⟩
   ·refine tk 6 (.bool true) hS3 (fun w' hS=>?_) ?_
    ·go_simp
    try simp only[Act.put,am,ai,aj,aa,an,ar]
    refine tk 7 (.bool true) hS3 (fun w' hS=>?_) ?_
    ·go_simp
    try simp only[Act.put,am,ai,aj,aa,an,ar]
    refine tk 8 (.bool true) hS3 (fun w' hS=>?_) ?_
    ·go_simp
    try simp only[Act.put,am,ai,aj,aa,an,ar]
    refine tk 9 (.pointer (some ⟨g,0,none⟩)) hS3 (fun w' hS=>?_) ?_
    ·go_simp
    try simp only[Act.put,am,ai,aj,aa,an,ar]
    refine tk 10 (.pointer (some ⟨g,0,none⟩)) hS3 (fun w' hS=>?_) ?_
    ·go_simp
    try simp only[Act.put,am,ai,aj,aa,an,ar]
    refine tk 11 (.pointer (some ⟨g,4,none⟩)) hS3 (fun w' hS=>?_) ?_
    ·go_simp
    try simp only[Act.put,am,ai,aj,aa,an,ar]
    refine tk 12 (.int .i64 (s.deep:Int)) hS3 (fun w' hS=>?_) ?_
    ·have c0:=tc w' hS _ _ y4;go_simp
    try simp only[Act.put,am,ai,aj,aa,an,ar]
    by_cases hd:s.deep<200
    ·rw[aG hd] at HR;have hd2:(s.deep:Int)<200:=by omega
     clear hd;refine tk 13 (.bool true) hS3 (fun w' hS=>?_) ?_
     ·go_simp
     try simp only[Act.put,am,ai,aj,aa,an,ar]
     refine tk 14 (.bool true) hS3 (fun w' hS=>?_) ?_
     ·go_simp
     try simp only[Act.put,am,ai,aj,aa,an,ar]
     refine tk 15 (.bool true) hS3 (fun w' hS=>?_) ?_
     ·go_simp
     try simp only[Act.put,am,ai,aj,aa,an,ar]
     refine tk 16 (.pointer (some ⟨g,0,none⟩)) hS3 (fun w' hS=>?_) ?_
     ·go_simp
     try simp only[Act.put,am,ai,aj,aa,an,ar]
     refine tk 17 (.pointer (some ⟨g,0,none⟩)) hS3 (fun w' hS=>?_) ?_
     ·go_simp
     try simp only[Act.put,am,ai,aj,aa,an,ar]
     refine tk 18 (.pointer (some ⟨g,0,none⟩)) hS3 (fun w' hS=>?_) ?_
     ·go_simp
     try simp only[Act.put,am,ai,aj,aa,an,ar]
     refine tk 19 (.slice (some ⟨g1,o1,none⟩) F.length c) hS3 (fun w' hS=>?_) ?_
     ·have c0:=tc w' hS _ _ y0;go_simp
     try simp only[Act.put,am,ai,aj,aa,an,ar]
     refine tk 20 (.pointer (some ⟨g,0,none⟩)) hS3 (fun w' hS=>?_) ?_
     ·go_simp
     try simp only[Act.put,am,ai,aj,aa,an,ar]
     refine tk 21 (.pointer (some ⟨g,0,none⟩)) hS3 (fun w' hS=>?_) ?_
     ·go_simp
     try simp only[Act.put,am,ai,aj,aa,an,ar]
     refine tk 22 (.pointer (some ⟨g,1,none⟩)) hS3 (fun w' hS=>?_) ?_
     ·go_simp
     try simp only[Act.put,am,ai,aj,aa,an,ar]
     refine tk 23 (.int .i64 (s.p:Int)) hS3 (fun w' hS=>?_) ?_
     ·have c0:=tc w' hS _ _ y1;go_simp
     try simp only[Act.put,am,ai,aj,aa,an,ar]
     refine tk 24 (.pointer (some ⟨g1,o1+s.p*4,none⟩)) hS3 (fun w' hS=>?_) ?_
     ·go_simp
     try simp only[Act.put,am,ai,aj,aa,an,ar]
     refine tk 25 (.pointer (some ⟨g1,o1+s.p*4+1,none⟩)) hS3 (fun w' hS=>?_) ?_
     ·go_simp
     try simp only[Act.put,am,ai,aj,aa,an,ar]
     refine tk 26 (.string ⟨x.tx.toArray⟩) hS3 (fun w' hS=>?_) ?_
     ·have c0:=tc w' hS _ _ z1;go_simp
     try simp only[Act.put,am,ai,aj,aa,an,ar]
     refine wpAnyH_all (rs:=[27]) (by decide +kernel) (by simp) (nX rfl (by rfl) (fun K2 hK2=>?_) (nY (S:=S0)));go_simp;go_at_call 180;refine(HN.out _).mono ?_;rintro e w3 ⟨rfl,rfl⟩;have hS4:S0 w3:=by rw[hS0];exact H2.out
     refine hK2 _ _ hS4 ?_;clear hK2 K2;try simp only[Act.put,am,ai,aj,aa,an,ar]
     refine tk 28 (.bool nb) hS4 (fun w' hS=>?_) ?_
     ·go_simp
     try simp only[Act.put,am,ai,aj,aa,an,ar]
     refine tk 29 (.bool nb) hS4 (fun w' hS=>?_) ?_
     ·go_simp
     try simp only[Act.put,am,ai,aj,aa,an,ar]
     refine wpAnyH_done (by decide +kernel) ?_ _;go_wp2_with fail;go_ret;exact⟨by rw[show R=nb from HR.out];rfl,H2.out⟩
    ·rw[aE hd] at HR;have hd2:¬(s.deep:Int)<200:=by omega
     clear hd;refine tk 13 (.bool false) hS3 (fun w' hS=>?_) ?_
     ·go_simp
     try simp only[Act.put,am,ai,aj,aa,an,ar]
     refine tk 14 (.bool false) hS3 (fun w' hS=>?_) ?_
     ·go_simp
     try simp only[Act.put,am,ai,aj,aa,an,ar]
     refine tk 15 (.bool false) hS3 (fun w' hS=>?_) ?_
     ·go_simp
     try simp only[Act.put,am,ai,aj,aa,an,ar]
     refine sk 16 hS3 ?_;try simp only[Act.put,am,ai,aj,aa,an,ar]
     refine sk 17 hS3 ?_;try simp only[Act.put,am,ai,aj,aa,an,ar]
     refine sk 18 hS3 ?_;try simp only[Act.put,am,ai,aj,aa,an,ar]
     refine sk 19 hS3 ?_;try simp only[Act.put,am,ai,aj,aa,an,ar]
     refine sk 20 hS3 ?_;try simp only[Act.put,am,ai,aj,aa,an,ar]
     refine sk 21 hS3 ?_;try simp only[Act.put,am,ai,aj,aa,an,ar]
     refine sk 22 hS3 ?_;try simp only[Act.put,am,ai,aj,aa,an,ar]
     refine sk 23 hS3 ?_;try simp only[Act.put,am,ai,aj,aa,an,ar]
     refine sk 24 hS3 ?_;try simp only[Act.put,am,ai,aj,aa,an,ar]
     refine sk 25 hS3 ?_;try simp only[Act.put,am,ai,aj,aa,an,ar]
     refine sk 26 hS3 ?_;try simp only[Act.put,am,ai,aj,aa,an,ar]
     refine sk 27 hS3 ?_;try simp only[Act.put,am,ai,aj,aa,an,ar]
     refine tk 28 (.bool false) hS3 (fun w' hS=>?_) ?_
     ·go_simp
     try simp only[Act.put,am,ai,aj,aa,an,ar]
     refine tk 29 (.bool false) hS3 (fun w' hS=>?_) ?_
     ·go_simp
     try simp only[Act.put,am,ai,aj,aa,an,ar]
     refine wpAnyH_done (by decide +kernel) ?_ _;go_wp2_with fail;go_ret;exact⟨by rw[show R=false from HR.out];rfl,H2.out⟩
structure Bd (F:List Lf) (c:Nat) (s:Ps):Prop where
  p:s.p≤F.length
  l:s.l.length≤46*s.p+c
  d:s.deep≤200
theorem Bd.mono {F:List Lf} {c c':Nat} {s:Ps} (h:Bd F c s) (hc:c≤c'):Bd F c' s:=⟨h.p,by have:=h.l;omega,h.d⟩
theorem Bd.gd {F:List Lf} {c b:Nat} {s t:Ps} (h:Bd F c s) (k:Gd F.length b s t):Bd F (c+b) t:=⟨k.N,by have:=h.l;have:=k.b;have:=k.p;omega,by rw[k.dp];exact h.d⟩
theorem Bd.next {F:List Lf} {c:Nat} {s:Ps} (h:Bd F c s) (hp:s.p<F.length) (hc:c≤46):Bd F 0 (dY s):=⟨hp,by have:=h.l;show s.l.length≤46*(s.p+1)+0;omega,h.d⟩
theorem Bd.inn {F:List Lf} {c:Nat} {s:Ps} (h:Bd F c s) (k:Nat):Bd F (c+1) (fG k s):=⟨h.p,by show (s.l++[_]).length≤46*s.p+(c+1);rw[aD];have:=h.l;show s.l.length+1≤_;omega,h.d⟩
theorem Bd.l5 {F:List Lf} {c:Nat} {s:Ps} (h:Bd F c s) (hF:FB F) (hc:c≤100):s.l.length≤50000:=by have:=h.l;have:=h.p;have:=hF.n;omega
theorem lT {F:List Lf} {cs:List UInt8} {s:Ps} (h:ef F cs s=true):eG F cs s=dY s:=by unfold eG;rw[aB h]
theorem oZ {F:List Lf} {cs:List UInt8} {s:Ps} (h:ef F cs s=false):eG F cs s=s:=by unfold eG;rw[aC (by rw[h];decide)]
theorem tD {g:Nat} {fv:Value} {F:List Lf} {s t:Ps} {W:World} (k fn:Nat) (h:Mk g fv F s W) (hl:s.l.length≤50000) (hk:k≤18) (eg:∀args w,(callFunc fn args).run Tryz.prog w=.ok (.enter fn args) w)
    (hf:∀W1,Mz g fv F W (fG k s) W1→Calls Tryz.prog fn #[.pointer (some ⟨g,0,none⟩)] W1 fun e w'=>e=.returned (.tuple #[])∧Mz g fv F W1 t w') (ht:s.l.length<t.l.length) (hp:t.p≤100000) :
    Calls Tryz.prog 51 #[.pointer (some ⟨g,0,none⟩),.int .i64 (k:Int),.func (.func fn) #[.pointer (some ⟨g,0,none⟩)] #[]] W fun e w'=>e=.returned (.tuple #[])∧Mz g fv F W {t with up:=s.up,l:=ik t.l s.l.length t.p} w':=
  rC k fn #[.pointer (some ⟨g,0,none⟩)] #[] h hl hk eg hf ht hp
theorem gz {g:Nat} {fv:Value} {F:List Lf} {s:Ps} {W:World} (hF:FB F) (h:Mk g fv F s W) (hB:Bd F 100 s) :
    lw 120 g fv F W (.tuple #[]) (fe s):=by
  have hp:=hB.p;have hn:=hF.n;have c1:∀W1,Mz g fv F W (fG 18 s) W1→Calls Tryz.prog 143 (#[]++#[]) W1 fun e w'=>e=.returned (.tuple #[])∧Mz g fv F W1 (fG 18 s) w':=fun W1 h1=>by
    show Calls _ _ #[] _ _;go_enter Tryz.func143,Tryz.ntmps143;go_wp2;first|go_end0|refine bn ?_
    exact⟨rfl,Mz.start h1.m⟩
  have c2:=rC 18 _ #[] #[] h (hB.l5 hF (by omega)) (by omega) (enters_of Tryz.func143 (by kernel_rfl) rfl) c1 (by show s.l.length<(s.l++[_]).length;simp) (by show s.p≤100000;omega);have HC:=ac c2;clear c1 c2;go_enter Tryz.func120,Tryz.ntmps120;go_wp2_with (
    (go_at_call 51;refine HC.out.mono ?_;rintro e w1 ⟨rfl,hz⟩;have H1:=ac hz;clear hz))
  first|go_end0|refine bn ?_
  exact⟨rfl,H1.out⟩
theorem Mz.box {g bx:Nat} {fv:Value} {F:List Lf} {s:Ps} {W w':World} {cs:Array Value} {ty:TypeId} (h:Mz g fv F W s w') (hb:Bk W bx ty cs) (ht:ty∉[78,52]):Bk w' bx ty cs:=hb.kt h.f.kt ht
theorem JH {g bx:Nat} {fv:Value} {F:List Lf} {s:Ps} {W:World} (hF:FB F) (h:Mk g fv F s W) (hs:s.p≤F.length) (hb:Bk W bx 76 #[.pointer (some ⟨g,0,none⟩)]) :
    Calls Tryz.prog 93 #[.pointer (some ⟨bx,0,none⟩)] W fun e w'=>e=.returned (.tuple #[])∧Mz g fv F W (dY s) w':=by
  have hn:=hF.n;have v1:IntKind.i64.wrap ((s.p:Int)+1)=((s.p+1:Nat):Int):=by rw[aO _ (by omega)];omega
  obtain⟨c0,c1,c3,c4,f1,f2,f3,f4⟩:=h.cells;have b0:=hb.cell 0;have HC:=ac h;clear h hb;go_enter Tryz.func93,Tryz.ntmps93;go_wp2;first|go_end0|refine bn ?_
  exact⟨rfl,(Mz.start HC.out).setP (s.p+1)⟩
theorem wG {g:Nat} {fv:Value} {F:List Lf} {s:Ps} {W:World} (k:Nat) (hk:k≤18) (hF:FB F) (h:Mk g fv F s W) (hB:Bd F 100 s) (hs:s.p<F.length) :
    Calls Tryz.prog 75 #[.pointer (some ⟨g,0,none⟩),.int .i64 (k:Int)] W fun e w'=>e=.returned (.tuple #[])∧Mz g fv F W (eD k s) w':=by
  have hn:=hF.n;have c2:∀W0,Mk g fv F s W0→∀bx,Bk W0 bx 76 #[.pointer (some ⟨g,0,none⟩)]→Calls Tryz.prog 51 #[.pointer (some ⟨g,0,none⟩),.int .i64 (k:Int),.func (.func 93) #[] #[.pointer (some ⟨bx,0,none⟩)]] W0 fun e w'=>e=.returned (.tuple #[])∧Mz g fv F W0 (eD k s) w':=fun W0 h0 bx hb=>
    rC (t:=dY (fG k s)) k _ #[] #[.pointer (some ⟨bx,0,none⟩)] h0 (hB.l5 hF (by omega)) hk (enters_of Tryz.func93 (by kernel_rfl) rfl)
      (fun W1 h1=>JH hF h1.m hB.p (h1.box hb (by decide))) (by show s.l.length<(s.l++[_]).length;simp) (by show s.p+1≤100000;omega)
  have HC:=ac (ae c2 h);clear c2 h;go_enter Tryz.func75,Tryz.ntmps75;go_wp2_with (
    (go_at_call 51;have hba:Below W.heap.size W (W.alloc (.cells #[.pointer (some ⟨g,0,none⟩)] 76)):=(ay _ W).alloc (au _) _;refine(HC.out.1 _ (HC.out.2.next hba).1 _ (Bk.new W _ _)).mono ?_;rintro e w1 ⟨rfl,hz⟩;have H1:=ac (((Mz.start HC.out.2).next hba).then hz);clear hz hba))
  first|go_end0|refine bn ?_
  exact⟨rfl,H1.out⟩
theorem iS {g:Nat} {fv:Value} {F:List Lf} {s:Ps} {W:World} (hF:FB F) (h:Mk g fv F s W) (hB:Bd F 100 s) (c:UInt8) (hc:c≠0) :
    Calls Tryz.prog 182 #[.pointer (some ⟨g,0,none⟩),.string ⟨#[c]⟩] W fun e w'=>e=.returned (.tuple #[])∧Mz g fv F W (eE F c s) w':=by
  have hc0:[c].contains 0=false:=by simp;exact fun e=>hc e.symm
  have c1:=lU hF h hB.p [c] hc0;have c2:=fun W1 (h1:Mk g fv F s W1)=>gz hF h1 hB
  unfold eE
  cases hb:ef F [c] s
  ·rw[hb,oZ hb] at c1;have HC:=ac (ae c1 c2);clear c1 c2 hb h;go_enter Tryz.func182,Tryz.ntmps182
   go_wp2_with (first
     | (go_at_call 73;with_reducible refine HC.out.1.mono ?_
        rintro e w1 ⟨rfl,hz⟩;have H1:=ac hz;clear hz)
     | (go_at_call 120;with_reducible refine(HC.out.2 _ H1.out.m).mono ?_
        rintro e w2 ⟨rfl,hz⟩;have H2:=ac (H1.out.then hz);clear hz))
   first|go_end0|refine bn ?_
   exact⟨rfl,H2.out⟩
  ·rw[hb,lT hb] at c1;have HC:=ac c1;clear c1 c2 hb h;go_enter Tryz.func182,Tryz.ntmps182;go_wp2_with (
     (go_at_call 73;with_reducible refine HC.out.mono ?_
      rintro e w1 ⟨rfl,hz⟩;have H1:=ac hz;clear hz))
   first|go_end0|refine bn ?_
   exact⟨rfl,H1.out⟩
theorem oE {g:Nat} {fv:Value} {F:List Lf} {s:Ps} {W:World} (hF:FB F) (h:Mk g fv F s W) (hB:Bd F 100 s) :
    lw 181 g fv F W (.tuple #[]) (eK F s):=by
  have c1:=mt hF h hB.p;have c2:=fun W1 (h1:Mk g fv F s W1)=>gz hF h1 hB
  have c3:=fun (hs:s.p<F.length) W1 (h1:Mk g fv F s W1)=>wG 7 (by omega) hF h1 hB hs
  unfold eK
  cases hb:iw F s.p
  ·rw[hb] at c1;have HC:=ac (ae c1 (ae c2 h));clear c1 c2 c3 hb h;go_enter Tryz.func181,Tryz.ntmps181
   go_wp2_with (first
     | (go_at_call 183;with_reducible refine HC.out.1.mono ?_
        rintro e w1 ⟨rfl,hz⟩;have H1:=ac ((Mz.start HC.out.2.2).next hz);clear hz)
     | (go_at_call 120;with_reducible refine(HC.out.2.1 _ H1.out.m).mono ?_
        rintro e w2 ⟨rfl,hz⟩;have H2:=ac (H1.out.then hz);clear hz))
   first|go_end0|refine bn ?_
   exact⟨rfl,H2.out⟩
  ·rw[hb] at c1;have c4:=c3 (fO hb);have HC:=ac (ae c1 (ae c4 h));clear c1 c2 c3 c4 hb h;go_enter Tryz.func181,Tryz.ntmps181
   go_wp2_with (first
     | (go_at_call 183;with_reducible refine HC.out.1.mono ?_
        rintro e w1 ⟨rfl,hz⟩;have H1:=ac ((Mz.start HC.out.2.2).next hz);clear hz)
     | (go_at_call 75;refine(HC.out.2.1 _ H1.out.m).mono ?_;rintro e w2 ⟨rfl,hz⟩;have H2:=ac (H1.out.then hz);clear hz))
   first|go_end0|refine bn ?_
   exact⟨rfl,H2.out⟩
def pOf (g:Nat) (w:World):Nat:=match w.cell? ⟨g,1,none⟩ with|some (.int _ p)=>p.toNat|_=>0
theorem Mk.pOf {g:Nat} {fv:Value} {F:List Lf} {s:Ps} {W:World} (h:Mk g fv F s W):Go.Proofs.YtmclohkaiemnaaaGreatDoor.pOf g W=s.p:=by
  unfold Go.Proofs.YtmclohkaiemnaaaGreatDoor.pOf;rw[h.cells.2.1];exact bJ _
theorem fT {g:Nat} {fv:Value} {F:List Lf} {s:Ps} {W:World} (hF:FB F) (h:Mk g fv F s W) (hs:s.p≤F.length) :
    lw 92 g fv F W (.bool (ef F [110] s)) (dW F s):=by
  have ct:=fun (u:Ps) (hu:u.p≤F.length) W1 (h1:Mk g fv F u W1)=>lU hF h1 hu [110] (by decide)
  have hl:=fun (u:Ps) (hu:u.p≤F.length)=>LC.eq (i7 (F:=F)) u hu
  have hlt:=fun (u:Ps) (hb:ef F [110] u=true)=>er hb (by decide)
  have HC:=ac (ae ct (ae hl (ae hlt h)));have c1:=ct s hs W h;obtain⟨b,hb⟩:∃b,b=ef F [110] s:=⟨_,rfl⟩;rw[←hb] at c1 ⊢;have H1':=ac c1;have h0:(eG F [110] s).p≤F.length∧dW F (eG F [110] s)=dW F s:=by
    cases hc:ef F [110] s
    ·rw[oZ hc];exact⟨hs,rfl⟩
    ·rw[lT hc];refine⟨hlt s hc,?_⟩
     have:=hl s hs
     simp only[hc,bP] at this;exact this.symm
  generalize eG F [110] s=u0 at *;have H0:=ac h0;clear h0 c1 hb ct hl hlt h;go_enter Tryz.func92,Tryz.ntmps92;go_wp2_with (
    (go_at_call 73;with_reducible refine H1'.out.mono ?_
     rintro e w1 ⟨rfl,hz⟩;have H1:=ac hz;clear hz))
  go_loopw [] (fun wr=>∃u:Ps,u.p≤F.length∧dW F u=dW F s∧Mz g fv F W u wr) (fun wr=>F.length-pOf g wr)
  case atStart=>exact⟨u0,H0.out.1,H0.out.2,H1.out⟩
  case round=>
    obtain⟨u,hu,hlu,hz⟩:=hrel;have e1:=hz.m.pOf;have HU:=ac (ae hlu (ae hz e1));have ct:=HC.out.1 u hu wr hz.m
    cases hb:ef F [110] u
    ·rw[hb,oZ hb] at ct;have hl:=HC.out.2.1 u hu;simp only[hb,bp,aH] at hl;have HT:=ac (ae ct hl);clear ct hl hlu hz e1 hb;go_wp2_with (
       (go_at_call 73;with_reducible refine HT.out.1.mono ?_
        rintro e w2 ⟨rfl,hz⟩;have H2:=ac (HU.out.2.1.then hz);clear hz))
     go_ret;refine⟨rfl,?_⟩;rw[←HU.out.1];rw[show dW F u=u from HT.out.2];exact H2.out
    ·rw[hb,lT hb] at ct;have hl:=HC.out.2.1 u hu;simp only[hb,bP] at hl;have hlt:=HC.out.2.2.1 u hb;have HT:=ac (ae ct hl);clear ct hl hlu hz e1 hb;go_wp2_with (
       (go_at_call 73;with_reducible refine HT.out.1.mono ?_
        rintro e w2 ⟨rfl,hz⟩;have H2:=ac (HU.out.2.1.then hz);clear hz))
     refine⟨⟨dY u,hlt,?_,H2.out⟩,?_⟩
     ·rw[←HU.out.1];exact HT.out.2.symm
     ·rw[H2.out.m.pOf,HU.out.2.2];show F.length-(u.p+1)<F.length-u.p;omega
theorem yn {g:Nat} {fv:Value} {F:List Lf} {s t:Ps} {W:World} (k fn:Nat) (pre cap:Array Value) (h:Mk g fv F s W) (hl:s.l.length≤50000) (hk:k≤18) (hd:s.deep≤200)
    (eg:∀args w,(callFunc fn args).run Tryz.prog w=.ok (.enter fn args) w)
    (hf:∀W1,Mz g fv F W (fG k {s with deep:=s.deep+1}) W1→Calls Tryz.prog fn (pre++cap) W1 fun e w'=>e=.returned (.tuple #[])∧Mz g fv F W1 t w') (ht:s.l.length<t.l.length) (hp:t.p≤100000) (htd:t.deep=s.deep+1) :
    Calls Tryz.prog 146 #[.pointer (some ⟨g,0,none⟩),.int .i64 (k:Int),.func (.func fn) pre cap] W fun e w'=>e=.returned (.tuple #[])∧Mz g fv F W {t with up:=s.up,l:=ik t.l s.l.length t.p,deep:=t.deep-1} w':=by
  have c1:=fun W1 (h1:Mz g fv F W {s with deep:=s.deep+1} W1)=>rC (t:=t) k fn pre cap h1.m hl hk eg (fun W2 h2=>hf W2 (h1.then h2)) ht hp
  have v1:IntKind.i64.wrap ((s.deep:Int)+1)=((s.deep+1:Nat):Int):=by rw[aO _ (by omega)];omega
  have v2:IntKind.i64.wrap ((t.deep:Int)-1)=((t.deep-1:Nat):Int):=by rw[aO _ (by omega)];omega
  obtain⟨c0,ca,cb,c4,f1,f2,f3,f4⟩:=h.cells;have HC:=ac (ae c1 h);clear c1 hf h htd;go_enter Tryz.func146,Tryz.ntmps146;go_wp2_with (
    (go_at_call 51;have hz0:=(Mz.start HC.out.2).setDeep (s.deep+1);refine(HC.out.1 _ hz0).mono ?_;rintro e w1 ⟨rfl,hz⟩;have H1:=ac (hz0.then hz);obtain⟨c0,ca,cb,c4,f1,f2,f3,f4⟩:=hz.m.cells;replace c4:w1.cell? ⟨g,4,none⟩=some (.int .i64 (t.deep:Int)):=c4;clear hz hz0))
  first|go_end0|refine bn ?_
  exact⟨rfl,H1.out.setDeep (t.deep-1)⟩
theorem gD {g:Nat} {fv:Value} {F:List Lf} {s:Ps} {W:World} (hF:FB F) (h:Mk g fv F s W) (hs:s.p≤F.length) (cs:List UInt8) (hcs:cs.contains 0=false) (hb:ef F cs s=true) :
    Calls Tryz.prog 73 #[.pointer (some ⟨g,0,none⟩),.string ⟨cs.toArray⟩] W fun e w'=>e=.returned (.bool true)∧Mz g fv F W (dY s) w':=by
  have c:=lU hF h hs cs hcs;rw[hb,lT hb] at c;exact c
theorem fE {g:Nat} {fv:Value} {F:List Lf} {s:Ps} {W:World} (hF:FB F) (h:Mk g fv F s W) (hs:s.p≤F.length) (cs:List UInt8) (hcs:cs.contains 0=false) (hb:ef F cs s=false) :
    Calls Tryz.prog 73 #[.pointer (some ⟨g,0,none⟩),.string ⟨cs.toArray⟩] W fun e w'=>e=.returned (.bool false)∧Mz g fv F W (s) w':=by
  have c:=lU hF h hs cs hcs;rw[hb,oZ hb] at c;exact c
theorem za {g:Nat} {fv:Value} {F:List Lf} {s:Ps} {W:World} (hF:FB F) (h:Mk g fv F s W) (hs:s.p≤F.length) (cs:List UInt8) (hcs:cs.contains 0=false) (hb:ef F cs s=true) :
    Calls Tryz.prog 91 #[.pointer (some ⟨g,0,none⟩),.string ⟨cs.toArray⟩] W fun e w'=>e=.returned (.bool true)∧Mz g fv F W (s) w':=by
  have c:=sY hF h hs cs hcs;rw[hb] at c;exact c.mono fun e w' ⟨h1,h2⟩=>⟨h1,(Mz.start h).next h2⟩
theorem qH {g:Nat} {fv:Value} {F:List Lf} {s:Ps} {W:World} (hF:FB F) (h:Mk g fv F s W) (hs:s.p≤F.length) (cs:List UInt8) (hcs:cs.contains 0=false) (hb:ef F cs s=false) :
    Calls Tryz.prog 91 #[.pointer (some ⟨g,0,none⟩),.string ⟨cs.toArray⟩] W fun e w'=>e=.returned (.bool false)∧Mz g fv F W (s) w':=by
  have c:=sY hF h hs cs hcs;rw[hb] at c;exact c.mono fun e w' ⟨h1,h2⟩=>⟨h1,(Mz.start h).next h2⟩
theorem vS {g:Nat} {fv:Value} {F:List Lf} {s:Ps} {W:World} (hF:FB F) (h:Mk g fv F s W) (hs:s.p≤F.length) (hb:eS F s=true) :
    lw 83 g fv F W (.bool true) (s):=by
  have c:=nC hF h hs;rw[hb] at c;exact c.mono fun e w' ⟨h1,h2⟩=>⟨h1,(Mz.start h).next h2⟩
theorem vT {g:Nat} {fv:Value} {F:List Lf} {s:Ps} {W:World} (hF:FB F) (h:Mk g fv F s W) (hs:s.p≤F.length) (hb:eS F s=false) :
    lw 83 g fv F W (.bool false) (s):=by
  have c:=nC hF h hs;rw[hb] at c;exact c.mono fun e w' ⟨h1,h2⟩=>⟨h1,(Mz.start h).next h2⟩
theorem qG {g:Nat} {fv:Value} {F:List Lf} {s:Ps} {W:World} (hF:FB F) (h:Mk g fv F s W) (hs:s.p≤F.length) (hb:gy F s=true) :
    lw 84 g fv F W (.bool true) (s):=by
  have c:=nU hF h hs;rw[hb] at c;exact c.mono fun e w' ⟨h1,h2⟩=>⟨h1,(Mz.start h).next h2⟩
theorem kH {g:Nat} {fv:Value} {F:List Lf} {s:Ps} {W:World} (hF:FB F) (h:Mk g fv F s W) (hs:s.p≤F.length) (hb:gy F s=false) :
    lw 84 g fv F W (.bool false) (s):=by
  have c:=nU hF h hs;rw[hb] at c;exact c.mono fun e w' ⟨h1,h2⟩=>⟨h1,(Mz.start h).next h2⟩
theorem yY {g:Nat} {fv:Value} {F:List Lf} {s:Ps} {W:World} (hF:FB F) (h:Mk g fv F s W) (hs:s.p≤F.length) (hb:lr F s=true) :
    lw 62 g fv F W (.bool true) (s):=by
  have c:=pE hF h hs;rw[hb] at c;exact c.mono fun e w' ⟨h1,h2⟩=>⟨h1,(Mz.start h).next h2⟩
theorem yZ {g:Nat} {fv:Value} {F:List Lf} {s:Ps} {W:World} (hF:FB F) (h:Mk g fv F s W) (hs:s.p≤F.length) (hb:lr F s=false) :
    lw 62 g fv F W (.bool false) (s):=by
  have c:=pE hF h hs;rw[hb] at c;exact c.mono fun e w' ⟨h1,h2⟩=>⟨h1,(Mz.start h).next h2⟩
theorem mg {g:Nat} {fv:Value} {F:List Lf} {s:Ps} {W:World} (hF:FB F) (h:Mk g fv F s W) (hs:s.p≤F.length) (hb:eN F s=true) :
    lw 39 g fv F W (.bool true) (s):=by
  have c:=vY hF h hs;rw[hb] at c;exact c.mono fun e w' ⟨h1,h2⟩=>⟨h1,(Mz.start h).next h2⟩
theorem mh {g:Nat} {fv:Value} {F:List Lf} {s:Ps} {W:World} (hF:FB F) (h:Mk g fv F s W) (hs:s.p≤F.length) (hb:eN F s=false) :
    lw 39 g fv F W (.bool false) (s):=by
  have c:=vY hF h hs;rw[hb] at c;exact c.mono fun e w' ⟨h1,h2⟩=>⟨h1,(Mz.start h).next h2⟩
theorem yJ {g:Nat} {fv:Value} {F:List Lf} {s:Ps} {W:World} (hF:FB F) (h:Mk g fv F s W) (hs:s.p≤F.length) (hb:lD F s=true) :
    lw 145 g fv F W (.bool true) (s):=by
  have c:=tT hF h hs;rw[hb] at c;exact c.mono fun e w' ⟨h1,h2⟩=>⟨h1,(Mz.start h).next h2⟩
theorem sj {g:Nat} {fv:Value} {F:List Lf} {s:Ps} {W:World} (hF:FB F) (h:Mk g fv F s W) (hs:s.p≤F.length) (hb:lD F s=false) :
    lw 145 g fv F W (.bool false) (s):=by
  have c:=tT hF h hs;rw[hb] at c;exact c.mono fun e w' ⟨h1,h2⟩=>⟨h1,(Mz.start h).next h2⟩
theorem i9 {g:Nat} {fv:Value} {F:List Lf} {s:Ps} {W:World} (hF:FB F) (h:Mk g fv F s W) (hs:s.p≤F.length) (hb:iw F s.p=true) :
    lw 183 g fv F W (.bool true) (s):=by
  have c:=mt hF h hs;rw[hb] at c;exact c.mono fun e w' ⟨h1,h2⟩=>⟨h1,(Mz.start h).next h2⟩
theorem gP {g:Nat} {fv:Value} {F:List Lf} {s:Ps} {W:World} (hF:FB F) (h:Mk g fv F s W) (hs:s.p≤F.length) (hb:iw F s.p=false) :
    lw 183 g fv F W (.bool false) (s):=by
  have c:=mt hF h hs;rw[hb] at c;exact c.mono fun e w' ⟨h1,h2⟩=>⟨h1,(Mz.start h).next h2⟩
theorem jW {g:Nat} {fv:Value} {F:List Lf} {s:Ps} {W:World} (hF:FB F) (h:Mk g fv F s W) (hs:s.p≤F.length) (hb:ef F [110] s=true) :
    lw 92 g fv F W (.bool true) (dW F s):=by
  have c:=fT hF h hs;rw[hb] at c;exact c
theorem lh {g:Nat} {fv:Value} {F:List Lf} {s:Ps} {W:World} (hF:FB F) (h:Mk g fv F s W) (hs:s.p≤F.length) (hb:ef F [110] s=false) :
    lw 92 g fv F W (.bool false) (dW F s):=by
  have c:=fT hF h hs;rw[hb] at c;exact c
theorem oH (k:Nat) (s:Ps):(fG k s).l.length=s.l.length+1:=by show (s.l++[_]).length=_;simp
theorem xM {g bx:Nat} {fv:Value} {F:List Lf} {s:Ps} {W:World} (hF:FB F) (h:Mk g fv F s W) (hB:Bd F 100 s) (hb:Bk W bx 76 #[.pointer (some ⟨g,0,none⟩)]) :
    Calls Tryz.prog 202 #[.pointer (some ⟨bx,0,none⟩)] W fun e w'=>e=.returned (.tuple #[])∧Mz g fv F W (eK F (eG F [60] (eG F [35] s))) w':=by
  have HBX:=ac hb;have hB1:=(hB.gd (fJ (cs:=[35]) (by decide) hB.p)).mono (au 100);have hB2:=(hB1.gd (fJ (cs:=[60]) (by decide) hB1.p)).mono (au 100);have HC1:=ac (fun W1 (h1:Mk g fv F (s) W1)=>lU hF h1 hB.p [35] (by decide));have HC2:=ac (fun W1 (h1:Mk g fv F (eG F [35] s) W1)=>lU hF h1 hB1.p [60] (by decide));have HC3:=ac (fun W1 (h1:Mk g fv F (eG F [60] (eG F [35] s)) W1)=>oE hF h1 hB2);have H0:=ac (Mz.start h);have b0:=HBX.out.cell 0;clear h hb;go_enter Tryz.func202,Tryz.ntmps202
  go_wp2_with (first
    | (go_at_call 73;with_reducible refine(HC1.out _ H0.out.m).mono ?_
       rintro e w1 ⟨rfl,hz⟩;have H1:=ac (H0.out.then hz);have b0:=(Bk.kt HBX.out H1.out.f.kt (by decide)).cell 0;clear hz)
    | (go_at_call 73;with_reducible refine(HC2.out _ H1.out.m).mono ?_
       rintro e w2 ⟨rfl,hz⟩;have H2:=ac (H1.out.then hz);have b0:=(Bk.kt HBX.out H2.out.f.kt (by decide)).cell 0;clear hz)
    | (go_at_call 181;with_reducible refine(HC3.out _ H2.out.m).mono ?_
       rintro e w3 ⟨rfl,hz⟩;have H3:=ac (H2.out.then hz);have b0:=(Bk.kt HBX.out H3.out.f.kt (by decide)).cell 0;clear hz)
    | fail)
  first|go_end0|refine bn ?_
  exact⟨rfl,H3.out⟩
theorem rZ {g:Nat} {fv:Value} {F:List Lf} {s:Ps} {W:World} (hF:FB F) (h:Mk g fv F s W) (hB:Bd F 99 s) (hb:eS F s=true) :
    lw 179 g fv F W (.bool true) (fH F s):=by
  have hn:=hF.n;have hg:=(mA hb).1;have hi:=hB.inn 8;have hx:∀W0,Mk g fv F s W0→∀bx,Bk W0 bx 76 #[.pointer (some ⟨g,0,none⟩)]→Calls Tryz.prog 51 #[.pointer (some ⟨g,0,none⟩),.int .i64 ((8:Nat):Int),.func (.func 202) #[] #[.pointer (some ⟨bx,0,none⟩)]] W0 fun e w'=>e=.returned (.tuple #[])∧Mz g fv F W0 (fH F s) w':=fun W0 h0 bx hbx=>by
    have hw1:=fJ (F:=F) (cs:=[35]) (by decide) hi.p;have hw2:=fJ (F:=F) (cs:=[60]) (by decide) hw1.N;have hw3:=gK hw2.N;have hlen:=((hw1.trans hw2).trans hw3).l;have hpN:=hw3.N;have hil:(fG 8 s).l.length=s.l.length+1:=oH 8 s
    exact rC (t:=eK F (eG F [60] (eG F [35] (fG 8 s)))) 8 _ #[] #[.pointer (some ⟨bx,0,none⟩)] h0 (hB.l5 hF (by omega)) (by omega) (enters_of Tryz.func202 (by kernel_rfl) rfl)
      (fun W1 h1=>xM hF h1.m hi (h1.box hbx (by decide))) (by omega) (by omega)
  have HX:=ac hx;have HC1:=ac (fun W1 (h1:Mk g fv F s W1)=>vS hF h1 hB.p hb);have H0:=ac (Mz.start h);clear h hx hg;go_enter Tryz.func179,Tryz.ntmps179;go_upto_region 1 with fail
  refine li fun W0 hb0 k0 _=>?_
  have HBX:=ac k0;have b0:=HBX.out.cell 0;have H1:=ac (H0.out.next hb0);have HZ:=ac (Mz.start H1.out.m);clear hb0 k0
  go_wp2_with (first
    | (go_at_call 83;with_reducible refine(HC1.out _ HZ.out.m).mono ?_
       rintro e w1 ⟨rfl,hz⟩;have H2:=ac (HZ.out.then hz);have b0:=(Bk.kt HBX.out H2.out.f.kt (by decide)).cell 0;clear hz)
    | (go_at_call 51;refine(HX.out _ H2.out.m _ (Bk.kt HBX.out H2.out.f.kt (by decide))).mono ?_;rintro e w2 ⟨rfl,hz⟩;have H3:=ac (H2.out.then hz);clear hz)
    | fail)
  go_ret;exact⟨rfl,H1.out.then H3.out⟩
theorem jU {g:Nat} {fv:Value} {F:List Lf} {s:Ps} {W:World} (hF:FB F) (h:Mk g fv F s W) (hB:Bd F 99 s) (hb:eS F s=false) :
    lw 179 g fv F W (.bool false) (s):=by
  have HC1:=ac (fun W1 (h1:Mk g fv F s W1)=>vT hF h1 hB.p hb);have H0:=ac (Mz.start h);clear h;go_enter Tryz.func179,Tryz.ntmps179;go_upto_region 1 with fail
  refine li fun W0 hb0 k0 _=>?_
  have b0:=k0.cell 0;have H1:=ac (H0.out.next hb0);clear hb0 k0;go_wp2_with (
    (go_at_call 83;with_reducible refine(HC1.out _ H1.out.m).mono (Mz.k H1 fun w1 H2=>?_)))
  go_ret;exact⟨rfl,H2.out⟩
end
end Go.Proofs.YtmclohkaiemnaaaGreatDoor
