/- The parser: a node is made. -/
import Derived.Test.YtfagdpfgifgnoaaGreatDoorMb13
import Derived.Shelf.Abstract
import Derived.Deep.CutBlock
set_option linter.unusedVariables false
set_option linter.unusedSimpArgs false
set_option maxRecDepth 100000
set_option maxHeartbeats 8000000
namespace Go.Proofs.YtfagdpfgifgnoaaGreatDoor
section
open Go.RowKit
theorem Tryz.infoNode:(Tryz.prog.info? 49).map (fun i=>(i.zero,i.size,i.bytes))=some (some (.agg #[.int .i64 0,.int .i64 0,.int .i64 0,.int .i64 0]),4,32):=by kernel_rfl
def ma (k:Nat) (s:Ps):Ps:={s with l:=s.l++[⟨k,s.p,0,s.up⟩],up:=(s.l.length:Int)}
theorem lI {g:Nat} {fv:Value} {F:List Lf} {s t:Ps} {W:World} (k fn:Nat) (pre cap:Array Value) (h:Mk g fv F s W) (hl:s.l.length≤50000) (hk:k≤18)
    (eg:∀args w,(callFunc fn args).run Tryz.prog w=.ok (.enter fn args) w)
    (hf:∀W1,Mz g fv F W (ma k s) W1→Calls Tryz.prog fn (pre++cap) W1 fun e w'=>e=.returned (.tuple #[])∧Mz g fv F W1 t w') (ht:s.l.length<t.l.length) (hp:t.p≤100000) :
    Calls Tryz.prog 64 #[.pointer (some ⟨g,0,none⟩),.int .i64 (k:Int),.func (.func fn) pre cap] W fun e w'=>e=.returned (.tuple #[])∧Mz g fv F W {t with up:=s.up,l:=dh t.l s.l.length t.p} w':=by
  obtain⟨i0,hi0,hz0,hz1,hz2⟩:=info_parts Tryz.infoNode;obtain⟨lv,hb,ho⟩:=h.w;obtain⟨A,n,c,rfl⟩:=az ho;obtain rfl:=bN ho;obtain⟨c0,c1,c2,c3,c4⟩:=hb.fivem;have f2:=hb.frozen 2;have H0:=Lib.hid (And.intro h (And.intro hb (And.intro ho h.f)));have HF:=Lib.hid hf;have hne:(Value.slice A s.l.length c).ownBlock≠some g:=aL ho hb (by decide);have hgl:=hb.lt;clear hf h hb ho;go_enter Tryz.func64,Tryz.ntmps64;go_wp2;go_quiet (fail);go_wp2;have H1:=Lib.hid ((Mz.start H0.out.1).drew nq);have b1:Bk (W.drewN nq) g 103 _:=H0.out.2.1;have o1:(W.drewN nq).ownsRow g 49 4 (.slice A s.l.length c) s.l.length (dt s.l):=H0.out.2.2.1;have r1:Rd (W.drewN nq) g 4 fv F.length (fh F):=H0.out.2.2.2;have g1:g<(W.drewN nq).heap.size:=hgl;have H2:=Lib.hid (And.intro b1 (And.intro o1 r1));have HW:=Lib.hid (rfl:W.heap.size=(W.drewN nq).heap.size);clear c0 c1 c2 c3 c4 f2 b1 o1 r1 hgl;generalize W.drewN nq=W1 at *;obtain⟨c0,c1,c2,c3,c4⟩:=H2.out.1.fivem;have f2:=H2.out.1.frozen 2
  go_region_law (first
    | (refine cS rfl (.tmp 21) (.tmp 29) 25 rfl g 49 i0 _ 4 32 Tryz.underlying25 hi0 hz0 hz1 hz2 rfl (by decide) (.slice A s.l.length c) s.l.length (dt s.l) (by simp[Act.eval]) (H2.out.2.1.alloc _) (.slice (some ⟨W1.heap.size,0,none⟩) 1 1) 1 (W1.heap.size+1) (dt [⟨k,s.p,0,s.up⟩]) (by simp[Act.eval]) (Rd.drew (eM W1 (dt [⟨k,s.p,0,s.up⟩]) 49 4 1 rfl (by omega))) (DO _) (by unfold maxLen;omega) (by omega) (by simp;omega) ?_;intro v1 w1 hown1 hg1 hv1;obtain⟨gn,cn,rfl⟩:=fK hown1;have kk:=(H2.out.1.alloc (.cells #[.int .i64 (k:Int),.int .i64 (s.p:Int),.int .i64 0,.int .i64 s.up] 49)).drew.grown hg1 (fun e=>hne e.symm);have y0:=kk.cell 2;have y1:=kk.frozen 2;have H3:=Lib.hid (And.intro hown1 hg1);clear hown1 hg1 hv1 kk))
  all_goals (
    have hbA:Below W1.heap.size W1 (W1.alloc (.cells #[.int .i64 (k:Int),.int .i64 (s.p:Int),.int .i64 0,.int .i64 s.up] 49)).drew:=((Below.refl _ W1).alloc (Nat.le_refl _) _).drew;have hp:=Mk.push (x:=⟨k,s.p,0,s.up⟩) (H2.out.1.below hbA g1) (aN H2.out.2.1 hbA) (H2.out.2.2.keep (hbA.mono (Nat.le_of_lt g1)) (Nat.le_refl _)) H3.out.1 H3.out.2;have H4:=Lib.hid (Mz.mk (W:=W) hp.1 ((H1.out.next hbA).f.trans hp.2));clear y0 y1 hp hbA H3 c0 c1 c2 c3 c4 f2;generalize w1.setCell {block:=g,off:=2} (Value.slice (some {block:=gn,off:=0}) (s.l.length+1) cn)=W3 at *;obtain⟨c0,c1,c3,c4,f1,f2,f3,f4⟩:=H4.out.m.cells)
  all_goals (
    go_wp2_with (
      (have H5:Mz g fv F W (ma k s) _:=H4.out.setUp (s.l.length:Int);with_reducible refine(HF.out _ H5).mono ?_
       rintro e w5 ⟨rfl,hz⟩;have H6:=Lib.hid (H5.then hz);obtain⟨d0,d1,d3,d4,e1,e2,e3,e4⟩:=hz.m.cells;clear hz H5)))
  all_goals (
    have H7:=Lib.hid (H6.out.setUp s.up);clear d0 d1 d3 d4 e1 e2 e3 e4 c0 c1 c3 c4 f1 f2 f3 f4;generalize w5.setCell {block:=g,off:=3} (Value.int IntKind.i64 s.up)=W7 at *;obtain⟨m,hm⟩:∃m,t.l.length=m+1:=⟨t.l.length-1,by omega⟩;obtain⟨lv,kb,ko⟩:=H7.out.m.w;have kr:=H7.out.m.f;obtain⟨ga,ca,rfl⟩:∃ga ca,lv=.slice (some ⟨ga,0,none⟩) t.l.length ca:=by
      rw[show ({t with up:=s.up}:Ps).l.length=m+1 from hm] at ko;obtain⟨ga,ca,e⟩:=fK ko;exact⟨ga,ca,by rw[hm];exact e⟩
    obtain⟨d0,d1,d2,d3,d4⟩:=kb.fivem;replace d1:W7.cell? ⟨g,1,none⟩=some (.int .i64 (t.p:Int)):=d1;have x1:=cQ ko (s.l.length*4+2);obtain⟨v0,hv0⟩:∃v0,(dt t.l)[s.l.length*4+2]? = some v0:=⟨_,List.getElem?_eq_getElem (by rw[yB];omega)⟩;have x2:=aJ ko _ _ hv0;have u1:(s.l.length:Int)<(t.l.length:Int):=by omega
    have u2:(0:Int)≤(s.l.length:Int):=by omega
    have HT:=Lib.hid (Mk.setTo kb ko kr s.l.length t.p ht);clear hm kb ko kr hp hv0)
  all_goals go_region
  all_goals go_wp2_with fail
  all_goals go_end0
  all_goals exact⟨rfl,(Mz.mk (W:=W) HT.out.1 (H7.out.f.trans HT.out.2)).next (Below.refl _ _).drew⟩
section
variable {P:Program} {md:Region.Mode} {ops:Array Oper} {Q:Exit→Act→World→Prop}
theorem jJ {S:World→Prop} {K:Nat→Act→World→Prop} {a:Act} {w:World}:∀i∈([]:List Nat),wpOp P ops Q i (K i) a w:=fun _ h=>by cases h
theorem jI {S:World→Prop} {fuel:Nat} {listed:Array Bool} {a:Act} {w:World} {i:Nat} {o:Oper} {rs:List Nat} (ho:ops[i]? = some o) (hw:Region.wanted o (yielded ops a.tmps)=true)
    (h:∀K':Act→World→Prop,(∀a' w',S w'→wpAnyH P md ops Q S fuel (listed.setIfInBounds i true) a' w'→K' a' w')→o.wp P a w K' Q)
    (hs:∀j∈rs,wpOp P ops Q j (fun a' w'=>S w'∧wpAnyH P md ops Q S fuel (listed.setIfInBounds j true) a' w') a w) :
    ∀j∈i::rs,wpOp P ops Q j (fun a' w'=>S w'∧wpAnyH P md ops Q S fuel (listed.setIfInBounds j true) a' w') a w:=by
  intro j hj;rcases List.mem_cons.1 hj with rfl|hj
  ·unfold wpOp;simp only[ho];rw[if_pos hw];exact .inl (h _ fun a' w' h1 h2=>⟨h1,h2⟩)
  ·exact hs j hj
end
theorem nG {g:Nat} {fv:Value} {F:List Lf} {s:Ps} {W:World} (hF:FB F) (h:Mk g fv F s W) (hs:s.p≤F.length) :
    iE 158 #[.pointer (some ⟨g,0,none⟩)] W (.bool (my F s)):=by
  have hmix:Tryz.prog.follows .mixedOrders=true:=by kernel_rfl
  have c0:=fun W (h:Mk g fv F s W)=>iK hF h hs 0 s.p (by omega) (.inl rfl)
  have c1:=fun W (h:Mk g fv F s W)=>iK hF h hs 1 (s.p+1) (by omega) (.inr rfl)
  have hlx:sg F s.p=120→s.p<F.length:=fun e=>qN (by rw[e];decide)
  have htx:∀x,F[s.p]? = some x→tx F s.p=x.tx:=fun x hx=>by unfold tx;rw[hx]
  unfold my;obtain⟨a,ha⟩:∃a,a=sg F s.p:=⟨_,rfl⟩;obtain⟨b,hb⟩:∃b,b=sg F (s.p+1):=⟨_,rfl⟩;rw[←ha] at hlx c0 ⊢;rw[←hb] at c1 ⊢;clear ha hb;have k1:((a.toNat:Int)==120)=(a==120):=gZ a 120;have k2:((b.toNat:Int)==40)=(b==40):=gZ b 40;have hlx:(a==120)=true→s.p<F.length:=fun e=>hlx (by simpa using e)
  generalize (a==120)=x1 at *;generalize (b==40)=x2 at *;obtain⟨y0,y1,y3,y4,_⟩:=h.cells;obtain⟨A,c,rfl⟩:=h.f.formm;have HC:=Lib.hid (And.intro c0 (And.intro c1 h));clear c0 c1;obtain⟨R,hR⟩:∃R,R=(x1&&(x2&&(decide (s.deep<200)&&eC (tx F s.p)))):=⟨_,rfl⟩;rw[←hR];have HR:=Lib.hid hR;clear hR;go_enter Tryz.func158,Tryz.ntmps158;go_wp2_with fail;obtain⟨S0,hS0⟩:∃S0:World→Prop,S0=fun w'=>Below W.heap.size W w':=⟨_,rfl⟩
  refine wp_region_held (S:=S0) hmix ?_;show wpAnyH _ _ _ _ _ _ _ _ W.drew;have hS1:S0 W.drew:=by rw[hS0];exact(Below.refl _ W).drew
  have tc:∀(w':World),S0 w'→∀(a:Addr) (v:Value),W.cell? a=some v→w'.cell? a=some v:=fun w' h a v hc=>wj (by rw[hS0] at h;exact h) hc
  refine tk 0 (.pointer (some ⟨g,0,none⟩)) hS1 (fun w' hS=>?_) ?_
  ·go_simp
  try simp only[Act.put,List.getElem_toArray,List.getElem_cons_succ,List.getElem_cons_zero,List.setIfInBounds_toArray,List.set_cons_zero,List.set_cons_succ]
  refine wpAnyH_all (rs:=[1]) (by decide +kernel) (by simp) (jI rfl (by rfl) (fun K2 hK2=>?_) (jJ (S:=S0)));go_simp;go_at_call 75;refine(HC.out.1 _ (HC.out.2.2.next (Below.refl _ W).drew).1).mono ?_;rintro e w1 ⟨rfl,hb⟩;have H1:=Lib.hid ((Below.refl _ W).drew.trans hb);clear hb;have hS2:S0 w1:=by rw[hS0];exact H1.out
  refine hK2 _ _ hS2 ?_;clear hK2 K2;try simp only[Act.put,List.getElem_toArray,List.getElem_cons_succ,List.getElem_cons_zero,List.setIfInBounds_toArray,List.set_cons_zero,List.set_cons_succ]
  cases x1
  ·clear h hlx htx;refine tk 2 (.bool false) hS2 (fun w' hS=>?_) ?_
   ·go_simp
   try simp only[Act.put,List.getElem_toArray,List.getElem_cons_succ,List.getElem_cons_zero,List.setIfInBounds_toArray,List.set_cons_zero,List.set_cons_succ]
   refine tk 3 (.bool false) hS2 (fun w' hS=>?_) ?_
   ·go_simp
   try simp only[Act.put,List.getElem_toArray,List.getElem_cons_succ,List.getElem_cons_zero,List.setIfInBounds_toArray,List.set_cons_zero,List.set_cons_succ]
   refine sk 4 hS2 ?_;try simp only[Act.put,List.getElem_toArray,List.getElem_cons_succ,List.getElem_cons_zero,List.setIfInBounds_toArray,List.set_cons_zero,List.set_cons_succ]
   refine sk 5 hS2 ?_;try simp only[Act.put,List.getElem_toArray,List.getElem_cons_succ,List.getElem_cons_zero,List.setIfInBounds_toArray,List.set_cons_zero,List.set_cons_succ]
   refine sk 6 hS2 ?_;try simp only[Act.put,List.getElem_toArray,List.getElem_cons_succ,List.getElem_cons_zero,List.setIfInBounds_toArray,List.set_cons_zero,List.set_cons_succ]
   refine tk 7 (.bool false) hS2 (fun w' hS=>?_) ?_
   ·go_simp
   try simp only[Act.put,List.getElem_toArray,List.getElem_cons_succ,List.getElem_cons_zero,List.setIfInBounds_toArray,List.set_cons_zero,List.set_cons_succ]
   refine tk 8 (.bool false) hS2 (fun w' hS=>?_) ?_
   ·go_simp
   try simp only[Act.put,List.getElem_toArray,List.getElem_cons_succ,List.getElem_cons_zero,List.setIfInBounds_toArray,List.set_cons_zero,List.set_cons_succ]
   refine sk 9 hS2 ?_;try simp only[Act.put,List.getElem_toArray,List.getElem_cons_succ,List.getElem_cons_zero,List.setIfInBounds_toArray,List.set_cons_zero,List.set_cons_succ]
   refine sk 10 hS2 ?_;try simp only[Act.put,List.getElem_toArray,List.getElem_cons_succ,List.getElem_cons_zero,List.setIfInBounds_toArray,List.set_cons_zero,List.set_cons_succ]
   refine sk 11 hS2 ?_;try simp only[Act.put,List.getElem_toArray,List.getElem_cons_succ,List.getElem_cons_zero,List.setIfInBounds_toArray,List.set_cons_zero,List.set_cons_succ]
   refine sk 12 hS2 ?_;try simp only[Act.put,List.getElem_toArray,List.getElem_cons_succ,List.getElem_cons_zero,List.setIfInBounds_toArray,List.set_cons_zero,List.set_cons_succ]
   refine sk 13 hS2 ?_;try simp only[Act.put,List.getElem_toArray,List.getElem_cons_succ,List.getElem_cons_zero,List.setIfInBounds_toArray,List.set_cons_zero,List.set_cons_succ]
   refine tk 14 (.bool false) hS2 (fun w' hS=>?_) ?_
   ·go_simp
   try simp only[Act.put,List.getElem_toArray,List.getElem_cons_succ,List.getElem_cons_zero,List.setIfInBounds_toArray,List.set_cons_zero,List.set_cons_succ]
   refine tk 15 (.bool false) hS2 (fun w' hS=>?_) ?_
   ·go_simp
   try simp only[Act.put,List.getElem_toArray,List.getElem_cons_succ,List.getElem_cons_zero,List.setIfInBounds_toArray,List.set_cons_zero,List.set_cons_succ]
   refine sk 16 hS2 ?_;try simp only[Act.put,List.getElem_toArray,List.getElem_cons_succ,List.getElem_cons_zero,List.setIfInBounds_toArray,List.set_cons_zero,List.set_cons_succ]
   refine sk 17 hS2 ?_;try simp only[Act.put,List.getElem_toArray,List.getElem_cons_succ,List.getElem_cons_zero,List.setIfInBounds_toArray,List.set_cons_zero,List.set_cons_succ]
   refine sk 18 hS2 ?_;try simp only[Act.put,List.getElem_toArray,List.getElem_cons_succ,List.getElem_cons_zero,List.setIfInBounds_toArray,List.set_cons_zero,List.set_cons_succ]
   refine sk 19 hS2 ?_;try simp only[Act.put,List.getElem_toArray,List.getElem_cons_succ,List.getElem_cons_zero,List.setIfInBounds_toArray,List.set_cons_zero,List.set_cons_succ]
   refine sk 20 hS2 ?_;try simp only[Act.put,List.getElem_toArray,List.getElem_cons_succ,List.getElem_cons_zero,List.setIfInBounds_toArray,List.set_cons_zero,List.set_cons_succ]
   refine sk 21 hS2 ?_;try simp only[Act.put,List.getElem_toArray,List.getElem_cons_succ,List.getElem_cons_zero,List.setIfInBounds_toArray,List.set_cons_zero,List.set_cons_succ]
   refine sk 22 hS2 ?_;try simp only[Act.put,List.getElem_toArray,List.getElem_cons_succ,List.getElem_cons_zero,List.setIfInBounds_toArray,List.set_cons_zero,List.set_cons_succ]
   refine sk 23 hS2 ?_;try simp only[Act.put,List.getElem_toArray,List.getElem_cons_succ,List.getElem_cons_zero,List.setIfInBounds_toArray,List.set_cons_zero,List.set_cons_succ]
   refine sk 24 hS2 ?_;try simp only[Act.put,List.getElem_toArray,List.getElem_cons_succ,List.getElem_cons_zero,List.setIfInBounds_toArray,List.set_cons_zero,List.set_cons_succ]
   refine sk 25 hS2 ?_;try simp only[Act.put,List.getElem_toArray,List.getElem_cons_succ,List.getElem_cons_zero,List.setIfInBounds_toArray,List.set_cons_zero,List.set_cons_succ]
   refine sk 26 hS2 ?_;try simp only[Act.put,List.getElem_toArray,List.getElem_cons_succ,List.getElem_cons_zero,List.setIfInBounds_toArray,List.set_cons_zero,List.set_cons_succ]
   refine sk 27 hS2 ?_;try simp only[Act.put,List.getElem_toArray,List.getElem_cons_succ,List.getElem_cons_zero,List.setIfInBounds_toArray,List.set_cons_zero,List.set_cons_succ]
   refine tk 28 (.bool false) hS2 (fun w' hS=>?_) ?_
   ·go_simp
   try simp only[Act.put,List.getElem_toArray,List.getElem_cons_succ,List.getElem_cons_zero,List.setIfInBounds_toArray,List.set_cons_zero,List.set_cons_succ]
   refine tk 29 (.bool false) hS2 (fun w' hS=>?_) ?_
   ·go_simp
   try simp only[Act.put,List.getElem_toArray,List.getElem_cons_succ,List.getElem_cons_zero,List.setIfInBounds_toArray,List.set_cons_zero,List.set_cons_succ]
   refine wpAnyH_done (by decide +kernel) ?_ _;go_wp2_with fail;go_ret;exact⟨by rw[show R=false from HR.out];rfl,H1.out⟩
  ·have hlt:=hlx rfl;obtain⟨x,hx⟩:∃x,F[s.p]? = some x:=⟨_,List.getElem?_eq_getElem hlt⟩;have htx:=htx x hx;have htl:=hF.t x (List.mem_of_getElem? hx);obtain⟨g1,o1,rfl,z0,z1,z2,z3⟩:=fO h.f hx rfl;have u1:(s.p:Int)<(F.length:Int):=by omega
   have u2:(0:Int)≤(s.p:Int):=by omega
   have hn:=fun W=>ny x.tx W (by omega)
   rw[htx] at HR;generalize eC x.tx=nb at *;have HN:=Lib.hid hn;clear h hlx htx hx htl hn hlt z0 z2 z3;refine tk 2 (.bool true) hS2 (fun w' hS=>?_) ?_
   ·go_simp
   try simp only[Act.put,List.getElem_toArray,List.getElem_cons_succ,List.getElem_cons_zero,List.setIfInBounds_toArray,List.set_cons_zero,List.set_cons_succ]
   refine tk 3 (.bool true) hS2 (fun w' hS=>?_) ?_
   ·go_simp
   try simp only[Act.put,List.getElem_toArray,List.getElem_cons_succ,List.getElem_cons_zero,List.setIfInBounds_toArray,List.set_cons_zero,List.set_cons_succ]
   refine tk 4 (.pointer (some ⟨g,0,none⟩)) hS2 (fun w' hS=>?_) ?_
   ·go_simp
   try simp only[Act.put,List.getElem_toArray,List.getElem_cons_succ,List.getElem_cons_zero,List.setIfInBounds_toArray,List.set_cons_zero,List.set_cons_succ]
   refine wpAnyH_all (rs:=[5]) (by decide +kernel) (by simp) (jI rfl (by rfl) (fun K2 hK2=>?_) (jJ (S:=S0)));go_simp;go_at_call 75;refine(HC.out.2.1 _ (HC.out.2.2.next H1.out).1).mono ?_;rintro e w2 ⟨rfl,hb⟩;have H2:=Lib.hid (H1.out.trans (hb.mono H1.out.size));clear hb;have hS3:S0 w2:=by rw[hS0];exact H2.out
   refine hK2 _ _ hS3 ?_;clear hK2 K2;try simp only[Act.put,List.getElem_toArray,List.getElem_cons_succ,List.getElem_cons_zero,List.setIfInBounds_toArray,List.set_cons_zero,List.set_cons_succ]
   cases x2
   ·refine tk 6 (.bool false) hS3 (fun w' hS=>?_) ?_
    ·go_simp
    try simp only[Act.put,List.getElem_toArray,List.getElem_cons_succ,List.getElem_cons_zero,List.setIfInBounds_toArray,List.set_cons_zero,List.set_cons_succ]
    refine tk 7 (.bool false) hS3 (fun w' hS=>?_) ?_
    ·go_simp
    try simp only[Act.put,List.getElem_toArray,List.getElem_cons_succ,List.getElem_cons_zero,List.setIfInBounds_toArray,List.set_cons_zero,List.set_cons_succ]
    refine tk 8 (.bool false) hS3 (fun w' hS=>?_) ?_
    ·go_simp
    try simp only[Act.put,List.getElem_toArray,List.getElem_cons_succ,List.getElem_cons_zero,List.setIfInBounds_toArray,List.set_cons_zero,List.set_cons_succ]
    refine sk 9 hS3 ?_;try simp only[Act.put,List.getElem_toArray,List.getElem_cons_succ,List.getElem_cons_zero,List.setIfInBounds_toArray,List.set_cons_zero,List.set_cons_succ]
    refine sk 10 hS3 ?_;try simp only[Act.put,List.getElem_toArray,List.getElem_cons_succ,List.getElem_cons_zero,List.setIfInBounds_toArray,List.set_cons_zero,List.set_cons_succ]
    refine sk 11 hS3 ?_;try simp only[Act.put,List.getElem_toArray,List.getElem_cons_succ,List.getElem_cons_zero,List.setIfInBounds_toArray,List.set_cons_zero,List.set_cons_succ]
    refine sk 12 hS3 ?_;try simp only[Act.put,List.getElem_toArray,List.getElem_cons_succ,List.getElem_cons_zero,List.setIfInBounds_toArray,List.set_cons_zero,List.set_cons_succ]
    refine sk 13 hS3 ?_;try simp only[Act.put,List.getElem_toArray,List.getElem_cons_succ,List.getElem_cons_zero,List.setIfInBounds_toArray,List.set_cons_zero,List.set_cons_succ]
    refine tk 14 (.bool false) hS3 (fun w' hS=>?_) ?_
    ·go_simp
    try simp only[Act.put,List.getElem_toArray,List.getElem_cons_succ,List.getElem_cons_zero,List.setIfInBounds_toArray,List.set_cons_zero,List.set_cons_succ]
    refine tk 15 (.bool false) hS3 (fun w' hS=>?_) ?_
    ·go_simp
    try simp only[Act.put,List.getElem_toArray,List.getElem_cons_succ,List.getElem_cons_zero,List.setIfInBounds_toArray,List.set_cons_zero,List.set_cons_succ]
    refine sk 16 hS3 ?_;try simp only[Act.put,List.getElem_toArray,List.getElem_cons_succ,List.getElem_cons_zero,List.setIfInBounds_toArray,List.set_cons_zero,List.set_cons_succ]
    refine sk 17 hS3 ?_;try simp only[Act.put,List.getElem_toArray,List.getElem_cons_succ,List.getElem_cons_zero,List.setIfInBounds_toArray,List.set_cons_zero,List.set_cons_succ]
    refine sk 18 hS3 ?_;try simp only[Act.put,List.getElem_toArray,List.getElem_cons_succ,List.getElem_cons_zero,List.setIfInBounds_toArray,List.set_cons_zero,List.set_cons_succ]
    refine sk 19 hS3 ?_;try simp only[Act.put,List.getElem_toArray,List.getElem_cons_succ,List.getElem_cons_zero,List.setIfInBounds_toArray,List.set_cons_zero,List.set_cons_succ]
    refine sk 20 hS3 ?_;try simp only[Act.put,List.getElem_toArray,List.getElem_cons_succ,List.getElem_cons_zero,List.setIfInBounds_toArray,List.set_cons_zero,List.set_cons_succ]
    refine sk 21 hS3 ?_;try simp only[Act.put,List.getElem_toArray,List.getElem_cons_succ,List.getElem_cons_zero,List.setIfInBounds_toArray,List.set_cons_zero,List.set_cons_succ]
    refine sk 22 hS3 ?_;try simp only[Act.put,List.getElem_toArray,List.getElem_cons_succ,List.getElem_cons_zero,List.setIfInBounds_toArray,List.set_cons_zero,List.set_cons_succ]
    refine sk 23 hS3 ?_;try simp only[Act.put,List.getElem_toArray,List.getElem_cons_succ,List.getElem_cons_zero,List.setIfInBounds_toArray,List.set_cons_zero,List.set_cons_succ]
    refine sk 24 hS3 ?_;try simp only[Act.put,List.getElem_toArray,List.getElem_cons_succ,List.getElem_cons_zero,List.setIfInBounds_toArray,List.set_cons_zero,List.set_cons_succ]
    refine sk 25 hS3 ?_;try simp only[Act.put,List.getElem_toArray,List.getElem_cons_succ,List.getElem_cons_zero,List.setIfInBounds_toArray,List.set_cons_zero,List.set_cons_succ]
    refine sk 26 hS3 ?_;try simp only[Act.put,List.getElem_toArray,List.getElem_cons_succ,List.getElem_cons_zero,List.setIfInBounds_toArray,List.set_cons_zero,List.set_cons_succ]
    refine sk 27 hS3 ?_;try simp only[Act.put,List.getElem_toArray,List.getElem_cons_succ,List.getElem_cons_zero,List.setIfInBounds_toArray,List.set_cons_zero,List.set_cons_succ]
    refine tk 28 (.bool false) hS3 (fun w' hS=>?_) ?_
    ·go_simp
    try simp only[Act.put,List.getElem_toArray,List.getElem_cons_succ,List.getElem_cons_zero,List.setIfInBounds_toArray,List.set_cons_zero,List.set_cons_succ]
    refine tk 29 (.bool false) hS3 (fun w' hS=>?_) ?_
    ·go_simp
    try simp only[Act.put,List.getElem_toArray,List.getElem_cons_succ,List.getElem_cons_zero,List.setIfInBounds_toArray,List.set_cons_zero,List.set_cons_succ]
    refine wpAnyH_done (by decide +kernel) ?_ _;go_wp2_with fail;go_ret;exact⟨by rw[show R=false from HR.out];rfl,H2.out⟩
   ·refine tk 6 (.bool true) hS3 (fun w' hS=>?_) ?_
    ·go_simp
    try simp only[Act.put,List.getElem_toArray,List.getElem_cons_succ,List.getElem_cons_zero,List.setIfInBounds_toArray,List.set_cons_zero,List.set_cons_succ]
    refine tk 7 (.bool true) hS3 (fun w' hS=>?_) ?_
    ·go_simp
    try simp only[Act.put,List.getElem_toArray,List.getElem_cons_succ,List.getElem_cons_zero,List.setIfInBounds_toArray,List.set_cons_zero,List.set_cons_succ]
    refine tk 8 (.bool true) hS3 (fun w' hS=>?_) ?_
    ·go_simp
    try simp only[Act.put,List.getElem_toArray,List.getElem_cons_succ,List.getElem_cons_zero,List.setIfInBounds_toArray,List.set_cons_zero,List.set_cons_succ]
    refine tk 9 (.pointer (some ⟨g,0,none⟩)) hS3 (fun w' hS=>?_) ?_
    ·go_simp
    try simp only[Act.put,List.getElem_toArray,List.getElem_cons_succ,List.getElem_cons_zero,List.setIfInBounds_toArray,List.set_cons_zero,List.set_cons_succ]
    refine tk 10 (.pointer (some ⟨g,0,none⟩)) hS3 (fun w' hS=>?_) ?_
    ·go_simp
    try simp only[Act.put,List.getElem_toArray,List.getElem_cons_succ,List.getElem_cons_zero,List.setIfInBounds_toArray,List.set_cons_zero,List.set_cons_succ]
    refine tk 11 (.pointer (some ⟨g,4,none⟩)) hS3 (fun w' hS=>?_) ?_
    ·go_simp
    try simp only[Act.put,List.getElem_toArray,List.getElem_cons_succ,List.getElem_cons_zero,List.setIfInBounds_toArray,List.set_cons_zero,List.set_cons_succ]
    refine tk 12 (.int .i64 (s.deep:Int)) hS3 (fun w' hS=>?_) ?_
    ·have c0:=tc w' hS _ _ y4;go_simp
    try simp only[Act.put,List.getElem_toArray,List.getElem_cons_succ,List.getElem_cons_zero,List.setIfInBounds_toArray,List.set_cons_zero,List.set_cons_succ]
    by_cases hd:s.deep<200
    ·rw[decide_eq_true hd] at HR;have hd2:(s.deep:Int)<200:=by omega
     clear hd;refine tk 13 (.bool true) hS3 (fun w' hS=>?_) ?_
     ·go_simp
     try simp only[Act.put,List.getElem_toArray,List.getElem_cons_succ,List.getElem_cons_zero,List.setIfInBounds_toArray,List.set_cons_zero,List.set_cons_succ]
     refine tk 14 (.bool true) hS3 (fun w' hS=>?_) ?_
     ·go_simp
     try simp only[Act.put,List.getElem_toArray,List.getElem_cons_succ,List.getElem_cons_zero,List.setIfInBounds_toArray,List.set_cons_zero,List.set_cons_succ]
     refine tk 15 (.bool true) hS3 (fun w' hS=>?_) ?_
     ·go_simp
     try simp only[Act.put,List.getElem_toArray,List.getElem_cons_succ,List.getElem_cons_zero,List.setIfInBounds_toArray,List.set_cons_zero,List.set_cons_succ]
     refine tk 16 (.pointer (some ⟨g,0,none⟩)) hS3 (fun w' hS=>?_) ?_
     ·go_simp
     try simp only[Act.put,List.getElem_toArray,List.getElem_cons_succ,List.getElem_cons_zero,List.setIfInBounds_toArray,List.set_cons_zero,List.set_cons_succ]
     refine tk 17 (.pointer (some ⟨g,0,none⟩)) hS3 (fun w' hS=>?_) ?_
     ·go_simp
     try simp only[Act.put,List.getElem_toArray,List.getElem_cons_succ,List.getElem_cons_zero,List.setIfInBounds_toArray,List.set_cons_zero,List.set_cons_succ]
     refine tk 18 (.pointer (some ⟨g,0,none⟩)) hS3 (fun w' hS=>?_) ?_
     ·go_simp
     try simp only[Act.put,List.getElem_toArray,List.getElem_cons_succ,List.getElem_cons_zero,List.setIfInBounds_toArray,List.set_cons_zero,List.set_cons_succ]
     refine tk 19 (.slice (some ⟨g1,o1,none⟩) F.length c) hS3 (fun w' hS=>?_) ?_
     ·have c0:=tc w' hS _ _ y0;go_simp
     try simp only[Act.put,List.getElem_toArray,List.getElem_cons_succ,List.getElem_cons_zero,List.setIfInBounds_toArray,List.set_cons_zero,List.set_cons_succ]
     refine tk 20 (.pointer (some ⟨g,0,none⟩)) hS3 (fun w' hS=>?_) ?_
     ·go_simp
     try simp only[Act.put,List.getElem_toArray,List.getElem_cons_succ,List.getElem_cons_zero,List.setIfInBounds_toArray,List.set_cons_zero,List.set_cons_succ]
     refine tk 21 (.pointer (some ⟨g,0,none⟩)) hS3 (fun w' hS=>?_) ?_
     ·go_simp
     try simp only[Act.put,List.getElem_toArray,List.getElem_cons_succ,List.getElem_cons_zero,List.setIfInBounds_toArray,List.set_cons_zero,List.set_cons_succ]
     refine tk 22 (.pointer (some ⟨g,1,none⟩)) hS3 (fun w' hS=>?_) ?_
     ·go_simp
     try simp only[Act.put,List.getElem_toArray,List.getElem_cons_succ,List.getElem_cons_zero,List.setIfInBounds_toArray,List.set_cons_zero,List.set_cons_succ]
     refine tk 23 (.int .i64 (s.p:Int)) hS3 (fun w' hS=>?_) ?_
     ·have c0:=tc w' hS _ _ y1;go_simp
     try simp only[Act.put,List.getElem_toArray,List.getElem_cons_succ,List.getElem_cons_zero,List.setIfInBounds_toArray,List.set_cons_zero,List.set_cons_succ]
     refine tk 24 (.pointer (some ⟨g1,o1+s.p*4,none⟩)) hS3 (fun w' hS=>?_) ?_
     ·go_simp
     try simp only[Act.put,List.getElem_toArray,List.getElem_cons_succ,List.getElem_cons_zero,List.setIfInBounds_toArray,List.set_cons_zero,List.set_cons_succ]
     refine tk 25 (.pointer (some ⟨g1,o1+s.p*4+1,none⟩)) hS3 (fun w' hS=>?_) ?_
     ·go_simp
     try simp only[Act.put,List.getElem_toArray,List.getElem_cons_succ,List.getElem_cons_zero,List.setIfInBounds_toArray,List.set_cons_zero,List.set_cons_succ]
     refine tk 26 (.string ⟨x.tx.toArray⟩) hS3 (fun w' hS=>?_) ?_
     ·have c0:=tc w' hS _ _ z1;go_simp
     try simp only[Act.put,List.getElem_toArray,List.getElem_cons_succ,List.getElem_cons_zero,List.setIfInBounds_toArray,List.set_cons_zero,List.set_cons_succ]
     refine wpAnyH_all (rs:=[27]) (by decide +kernel) (by simp) (jI rfl (by rfl) (fun K2 hK2=>?_) (jJ (S:=S0)));go_simp;go_at_call 193;refine(HN.out _).mono ?_;rintro e w3 ⟨rfl,rfl⟩;have hS4:S0 w3:=by rw[hS0];exact H2.out
     refine hK2 _ _ hS4 ?_;clear hK2 K2;try simp only[Act.put,List.getElem_toArray,List.getElem_cons_succ,List.getElem_cons_zero,List.setIfInBounds_toArray,List.set_cons_zero,List.set_cons_succ]
     refine tk 28 (.bool nb) hS4 (fun w' hS=>?_) ?_
     ·go_simp
     try simp only[Act.put,List.getElem_toArray,List.getElem_cons_succ,List.getElem_cons_zero,List.setIfInBounds_toArray,List.set_cons_zero,List.set_cons_succ]
     refine tk 29 (.bool nb) hS4 (fun w' hS=>?_) ?_
     ·go_simp
     try simp only[Act.put,List.getElem_toArray,List.getElem_cons_succ,List.getElem_cons_zero,List.setIfInBounds_toArray,List.set_cons_zero,List.set_cons_succ]
     refine wpAnyH_done (by decide +kernel) ?_ _;go_wp2_with fail;go_ret;exact⟨by rw[show R=nb from HR.out];rfl,H2.out⟩
    ·rw[decide_eq_false hd] at HR;have hd2:¬(s.deep:Int)<200:=by omega
     clear hd;refine tk 13 (.bool false) hS3 (fun w' hS=>?_) ?_
     ·go_simp
     try simp only[Act.put,List.getElem_toArray,List.getElem_cons_succ,List.getElem_cons_zero,List.setIfInBounds_toArray,List.set_cons_zero,List.set_cons_succ]
     refine tk 14 (.bool false) hS3 (fun w' hS=>?_) ?_
     ·go_simp
     try simp only[Act.put,List.getElem_toArray,List.getElem_cons_succ,List.getElem_cons_zero,List.setIfInBounds_toArray,List.set_cons_zero,List.set_cons_succ]
     refine tk 15 (.bool false) hS3 (fun w' hS=>?_) ?_
     ·go_simp
     try simp only[Act.put,List.getElem_toArray,List.getElem_cons_succ,List.getElem_cons_zero,List.setIfInBounds_toArray,List.set_cons_zero,List.set_cons_succ]
     refine sk 16 hS3 ?_;try simp only[Act.put,List.getElem_toArray,List.getElem_cons_succ,List.getElem_cons_zero,List.setIfInBounds_toArray,List.set_cons_zero,List.set_cons_succ]
     refine sk 17 hS3 ?_;try simp only[Act.put,List.getElem_toArray,List.getElem_cons_succ,List.getElem_cons_zero,List.setIfInBounds_toArray,List.set_cons_zero,List.set_cons_succ]
     refine sk 18 hS3 ?_;try simp only[Act.put,List.getElem_toArray,List.getElem_cons_succ,List.getElem_cons_zero,List.setIfInBounds_toArray,List.set_cons_zero,List.set_cons_succ]
     refine sk 19 hS3 ?_;try simp only[Act.put,List.getElem_toArray,List.getElem_cons_succ,List.getElem_cons_zero,List.setIfInBounds_toArray,List.set_cons_zero,List.set_cons_succ]
     refine sk 20 hS3 ?_;try simp only[Act.put,List.getElem_toArray,List.getElem_cons_succ,List.getElem_cons_zero,List.setIfInBounds_toArray,List.set_cons_zero,List.set_cons_succ]
     refine sk 21 hS3 ?_;try simp only[Act.put,List.getElem_toArray,List.getElem_cons_succ,List.getElem_cons_zero,List.setIfInBounds_toArray,List.set_cons_zero,List.set_cons_succ]
     refine sk 22 hS3 ?_;try simp only[Act.put,List.getElem_toArray,List.getElem_cons_succ,List.getElem_cons_zero,List.setIfInBounds_toArray,List.set_cons_zero,List.set_cons_succ]
     refine sk 23 hS3 ?_;try simp only[Act.put,List.getElem_toArray,List.getElem_cons_succ,List.getElem_cons_zero,List.setIfInBounds_toArray,List.set_cons_zero,List.set_cons_succ]
     refine sk 24 hS3 ?_;try simp only[Act.put,List.getElem_toArray,List.getElem_cons_succ,List.getElem_cons_zero,List.setIfInBounds_toArray,List.set_cons_zero,List.set_cons_succ]
     refine sk 25 hS3 ?_;try simp only[Act.put,List.getElem_toArray,List.getElem_cons_succ,List.getElem_cons_zero,List.setIfInBounds_toArray,List.set_cons_zero,List.set_cons_succ]
     refine sk 26 hS3 ?_;try simp only[Act.put,List.getElem_toArray,List.getElem_cons_succ,List.getElem_cons_zero,List.setIfInBounds_toArray,List.set_cons_zero,List.set_cons_succ]
     refine sk 27 hS3 ?_;try simp only[Act.put,List.getElem_toArray,List.getElem_cons_succ,List.getElem_cons_zero,List.setIfInBounds_toArray,List.set_cons_zero,List.set_cons_succ]
     refine tk 28 (.bool false) hS3 (fun w' hS=>?_) ?_
     ·go_simp
     try simp only[Act.put,List.getElem_toArray,List.getElem_cons_succ,List.getElem_cons_zero,List.setIfInBounds_toArray,List.set_cons_zero,List.set_cons_succ]
     refine tk 29 (.bool false) hS3 (fun w' hS=>?_) ?_
     ·go_simp
     try simp only[Act.put,List.getElem_toArray,List.getElem_cons_succ,List.getElem_cons_zero,List.setIfInBounds_toArray,List.set_cons_zero,List.set_cons_succ]
     refine wpAnyH_done (by decide +kernel) ?_ _;go_wp2_with fail;go_ret;exact⟨by rw[show R=false from HR.out];rfl,H2.out⟩
structure Bd (F:List Lf) (c:Nat) (s:Ps):Prop where
  p:s.p≤F.length
  l:s.l.length≤46*s.p+c
  d:s.deep≤200
theorem Bd.mono {F:List Lf} {c c':Nat} {s:Ps} (h:Bd F c s) (hc:c≤c'):Bd F c' s:=⟨h.p,by have:=h.l;omega,h.d⟩
theorem Bd.gd {F:List Lf} {c b:Nat} {s t:Ps} (h:Bd F c s) (k:Gd F.length b s t):Bd F (c+b) t:=⟨k.N,by have:=h.l;have:=k.b;have:=k.p;omega,by rw[k.dp];exact h.d⟩
theorem Bd.next {F:List Lf} {c:Nat} {s:Ps} (h:Bd F c s) (hp:s.p<F.length) (hc:c≤46):Bd F 0 (ai s):=⟨hp,by have:=h.l;show s.l.length≤46*(s.p+1)+0;omega,h.d⟩
theorem Bd.inn {F:List Lf} {c:Nat} {s:Ps} (h:Bd F c s) (k:Nat):Bd F (c+1) (ma k s):=⟨h.p,by show (s.l++[_]).length≤46*s.p+(c+1);rw[List.length_append];have:=h.l;show s.l.length+1≤_;omega,h.d⟩
theorem Bd.l5 {F:List Lf} {c:Nat} {s:Ps} (h:Bd F c s) (hF:FB F) (hc:c≤100):s.l.length≤50000:=by have:=h.l;have:=h.p;have:=hF.n;omega
theorem pa {F:List Lf} {cs:List UInt8} {s:Ps} (h:am F cs s=true):aG F cs s=ai s:=by unfold aG;rw[if_pos h]
theorem pg {F:List Lf} {cs:List UInt8} {s:Ps} (h:am F cs s=false):aG F cs s=s:=by unfold aG;rw[if_neg (by rw[h];decide)]
theorem pV {g:Nat} {fv:Value} {F:List Lf} {s t:Ps} {W:World} (k fn:Nat) (h:Mk g fv F s W) (hl:s.l.length≤50000) (hk:k≤18) (eg:∀args w,(callFunc fn args).run Tryz.prog w=.ok (.enter fn args) w)
    (hf:∀W1,Mz g fv F W (ma k s) W1→Calls Tryz.prog fn #[.pointer (some ⟨g,0,none⟩)] W1 fun e w'=>e=.returned (.tuple #[])∧Mz g fv F W1 t w') (ht:s.l.length<t.l.length) (hp:t.p≤100000) :
    Calls Tryz.prog 64 #[.pointer (some ⟨g,0,none⟩),.int .i64 (k:Int),.func (.func fn) #[.pointer (some ⟨g,0,none⟩)] #[]] W fun e w'=>e=.returned (.tuple #[])∧Mz g fv F W {t with up:=s.up,l:=dh t.l s.l.length t.p} w':=
  lI k fn #[.pointer (some ⟨g,0,none⟩)] #[] h hl hk eg hf ht hp
theorem bP {g:Nat} {fv:Value} {F:List Lf} {s:Ps} {W:World} (hF:FB F) (h:Mk g fv F s W) (hB:Bd F 100 s) :
    f9 133 g fv F W (.tuple #[]) (aQ s):=by
  have hp:=hB.p;have hn:=hF.n;have c1:∀W1,Mz g fv F W (ma 18 s) W1→Calls Tryz.prog 156 (#[]++#[]) W1 fun e w'=>e=.returned (.tuple #[])∧Mz g fv F W1 (ma 18 s) w':=fun W1 h1=>by
    show Calls _ _ #[] _ _;go_enter Tryz.func156,Tryz.ntmps156;go_wp2;first|go_end0|refine bn ?_
    exact⟨rfl,Mz.start h1.m⟩
  have c2:=lI 18 _ #[] #[] h (hB.l5 hF (by omega)) (by omega) (enters_of Tryz.func156 (by kernel_rfl) rfl) c1 (by show s.l.length<(s.l++[_]).length;simp) (by show s.p≤100000;omega);have HC:=Lib.hid c2;clear c1 c2;go_enter Tryz.func133,Tryz.ntmps133;go_wp2_with (
    (go_at_call 64;refine HC.out.mono ?_;rintro e w1 ⟨rfl,hz⟩;have H1:=Lib.hid hz;clear hz))
  first|go_end0|refine bn ?_
  exact⟨rfl,H1.out⟩
theorem Mz.box {g bx:Nat} {fv:Value} {F:List Lf} {s:Ps} {W w':World} {cs:Array Value} {ty:TypeId} (h:Mz g fv F W s w') (hb:Bk W bx ty cs) (ht:ty∉[103,49]):Bk w' bx ty cs:=hb.kt h.f.kt ht
theorem B6 {g bx:Nat} {fv:Value} {F:List Lf} {s:Ps} {W:World} (hF:FB F) (h:Mk g fv F s W) (hs:s.p≤F.length) (hb:Bk W bx 101 #[.pointer (some ⟨g,0,none⟩)]) :
    Calls Tryz.prog 107 #[.pointer (some ⟨bx,0,none⟩)] W fun e w'=>e=.returned (.tuple #[])∧Mz g fv F W (ai s) w':=by
  have hn:=hF.n;have v1:IntKind.i64.wrap ((s.p:Int)+1)=((s.p+1:Nat):Int):=by rw[IntWalk.i64_in _ (by omega)];omega
  obtain⟨c0,c1,c3,c4,f1,f2,f3,f4⟩:=h.cells;have b0:=hb.cell 0;have HC:=Lib.hid h;clear h hb;go_enter Tryz.func107,Tryz.ntmps107;go_wp2;first|go_end0|refine bn ?_
  exact⟨rfl,(Mz.start HC.out).setP (s.p+1)⟩
theorem tI {g:Nat} {fv:Value} {F:List Lf} {s:Ps} {W:World} (k:Nat) (hk:k≤18) (hF:FB F) (h:Mk g fv F s W) (hB:Bd F 100 s) (hs:s.p<F.length) :
    Calls Tryz.prog 89 #[.pointer (some ⟨g,0,none⟩),.int .i64 (k:Int)] W fun e w'=>e=.returned (.tuple #[])∧Mz g fv F W (aD k s) w':=by
  have hn:=hF.n;have c2:∀W0,Mk g fv F s W0→∀bx,Bk W0 bx 101 #[.pointer (some ⟨g,0,none⟩)]→Calls Tryz.prog 64 #[.pointer (some ⟨g,0,none⟩),.int .i64 (k:Int),.func (.func 107) #[] #[.pointer (some ⟨bx,0,none⟩)]] W0 fun e w'=>e=.returned (.tuple #[])∧Mz g fv F W0 (aD k s) w':=fun W0 h0 bx hb=>
    lI (t:=ai (ma k s)) k _ #[] #[.pointer (some ⟨bx,0,none⟩)] h0 (hB.l5 hF (by omega)) hk (enters_of Tryz.func107 (by kernel_rfl) rfl)
      (fun W1 h1=>B6 hF h1.m hB.p (h1.box hb (by decide))) (by show s.l.length<(s.l++[_]).length;simp) (by show s.p+1≤100000;omega)
  have HC:=Lib.hid (And.intro c2 h);clear c2 h;go_enter Tryz.func89,Tryz.ntmps89;go_wp2_with (
    (go_at_call 64;have hba:Below W.heap.size W (W.alloc (.cells #[.pointer (some ⟨g,0,none⟩)] 101)):=(Below.refl _ W).alloc (Nat.le_refl _) _;refine(HC.out.1 _ (HC.out.2.next hba).1 _ (Bk.new W _ _)).mono ?_;rintro e w1 ⟨rfl,hz⟩;have H1:=Lib.hid (((Mz.start HC.out.2).next hba).then hz);clear hz hba))
  first|go_end0|refine bn ?_
  exact⟨rfl,H1.out⟩
theorem dA {g:Nat} {fv:Value} {F:List Lf} {s:Ps} {W:World} (hF:FB F) (h:Mk g fv F s W) (hB:Bd F 100 s) (c:UInt8) (hc:c≠0) :
    Calls Tryz.prog 195 #[.pointer (some ⟨g,0,none⟩),.string ⟨#[c]⟩] W fun e w'=>e=.returned (.tuple #[])∧Mz g fv F W (aI F c s) w':=by
  have hc0:[c].contains 0=false:=by simp;exact fun e=>hc e.symm
  have c1:=gw hF h hB.p [c] hc0;have c2:=fun W1 (h1:Mk g fv F s W1)=>bP hF h1 hB
  unfold aI
  cases hb:am F [c] s
  ·rw[hb,pg hb] at c1;have HC:=Lib.hid (And.intro c1 c2);clear c1 c2 hb h;go_enter Tryz.func195,Tryz.ntmps195
   go_wp2_with (first
     | (go_at_call 87;with_reducible refine HC.out.1.mono ?_
        rintro e w1 ⟨rfl,hz⟩;have H1:=Lib.hid hz;clear hz)
     | (go_at_call 133;with_reducible refine(HC.out.2 _ H1.out.m).mono ?_
        rintro e w2 ⟨rfl,hz⟩;have H2:=Lib.hid (H1.out.then hz);clear hz))
   first|go_end0|refine bn ?_
   exact⟨rfl,H2.out⟩
  ·rw[hb,pa hb] at c1;have HC:=Lib.hid c1;clear c1 c2 hb h;go_enter Tryz.func195,Tryz.ntmps195;go_wp2_with (
     (go_at_call 87;with_reducible refine HC.out.mono ?_
      rintro e w1 ⟨rfl,hz⟩;have H1:=Lib.hid hz;clear hz))
   first|go_end0|refine bn ?_
   exact⟨rfl,H1.out⟩
theorem jn {g:Nat} {fv:Value} {F:List Lf} {s:Ps} {W:World} (hF:FB F) (h:Mk g fv F s W) (hB:Bd F 100 s) :
    f9 194 g fv F W (.tuple #[]) (aU F s):=by
  have c1:=gO hF h hB.p;have c2:=fun W1 (h1:Mk g fv F s W1)=>bP hF h1 hB
  have c3:=fun (hs:s.p<F.length) W1 (h1:Mk g fv F s W1)=>tI 7 (by omega) hF h1 hB hs
  unfold aU
  cases hb:dW F s.p
  ·rw[hb] at c1;have HC:=Lib.hid (And.intro c1 (And.intro c2 h));clear c1 c2 c3 hb h;go_enter Tryz.func194,Tryz.ntmps194
   go_wp2_with (first
     | (go_at_call 196;with_reducible refine HC.out.1.mono ?_
        rintro e w1 ⟨rfl,hz⟩;have H1:=Lib.hid ((Mz.start HC.out.2.2).next hz);clear hz)
     | (go_at_call 133;with_reducible refine(HC.out.2.1 _ H1.out.m).mono ?_
        rintro e w2 ⟨rfl,hz⟩;have H2:=Lib.hid (H1.out.then hz);clear hz))
   first|go_end0|refine bn ?_
   exact⟨rfl,H2.out⟩
  ·rw[hb] at c1;have c4:=c3 (bC hb);have HC:=Lib.hid (And.intro c1 (And.intro c4 h));clear c1 c2 c3 c4 hb h;go_enter Tryz.func194,Tryz.ntmps194
   go_wp2_with (first
     | (go_at_call 196;with_reducible refine HC.out.1.mono ?_
        rintro e w1 ⟨rfl,hz⟩;have H1:=Lib.hid ((Mz.start HC.out.2.2).next hz);clear hz)
     | (go_at_call 89;refine(HC.out.2.1 _ H1.out.m).mono ?_;rintro e w2 ⟨rfl,hz⟩;have H2:=Lib.hid (H1.out.then hz);clear hz))
   first|go_end0|refine bn ?_
   exact⟨rfl,H2.out⟩
def pOf (g:Nat) (w:World):Nat:=match w.cell? ⟨g,1,none⟩ with|some (.int _ p)=>p.toNat|_=>0
theorem Mk.pOf {g:Nat} {fv:Value} {F:List Lf} {s:Ps} {W:World} (h:Mk g fv F s W):Go.Proofs.YtfagdpfgifgnoaaGreatDoor.pOf g W=s.p:=by
  unfold Go.Proofs.YtfagdpfgifgnoaaGreatDoor.pOf;rw[h.cells.2.1];exact Int.toNat_natCast _
theorem bF {g:Nat} {fv:Value} {F:List Lf} {s:Ps} {W:World} (hF:FB F) (h:Mk g fv F s W) (hs:s.p≤F.length) :
    f9 106 g fv F W (.bool (am F [110] s)) (ac F s):=by
  have ct:=fun (u:Ps) (hu:u.p≤F.length) W1 (h1:Mk g fv F u W1)=>gw hF h1 hu [110] (by decide)
  have hl:=fun (u:Ps) (hu:u.p≤F.length)=>LC.eq (fy (F:=F)) u hu
  have hlt:=fun (u:Ps) (hb:am F [110] u=true)=>au hb (by decide)
  have HC:=Lib.hid (And.intro ct (And.intro hl (And.intro hlt h)));have c1:=ct s hs W h;obtain⟨b,hb⟩:∃b,b=am F [110] s:=⟨_,rfl⟩;rw[←hb] at c1 ⊢;have H1':=Lib.hid c1;have h0:(aG F [110] s).p≤F.length∧ac F (aG F [110] s)=ac F s:=by
    cases hc:am F [110] s
    ·rw[pg hc];exact⟨hs,rfl⟩
    ·rw[pa hc];refine⟨hlt s hc,?_⟩
     have:=hl s hs
     simp only[hc,if_true] at this;exact this.symm
  generalize aG F [110] s=u0 at *;have H0:=Lib.hid h0;clear h0 c1 hb ct hl hlt h;go_enter Tryz.func106,Tryz.ntmps106;go_wp2_with (
    (go_at_call 87;with_reducible refine H1'.out.mono ?_
     rintro e w1 ⟨rfl,hz⟩;have H1:=Lib.hid hz;clear hz))
  go_loopw [] (fun wr=>∃u:Ps,u.p≤F.length∧ac F u=ac F s∧Mz g fv F W u wr) (fun wr=>F.length-pOf g wr)
  case atStart=>exact⟨u0,H0.out.1,H0.out.2,H1.out⟩
  case round=>
    obtain⟨u,hu,hlu,hz⟩:=hrel;have e1:=hz.m.pOf;have HU:=Lib.hid (And.intro hlu (And.intro hz e1));have ct:=HC.out.1 u hu wr hz.m
    cases hb:am F [110] u
    ·rw[hb,pg hb] at ct;have hl:=HC.out.2.1 u hu;simp only[hb,if_false,Bool.false_eq_true] at hl;have HT:=Lib.hid (And.intro ct hl);clear ct hl hlu hz e1 hb;go_wp2_with (
       (go_at_call 87;with_reducible refine HT.out.1.mono ?_
        rintro e w2 ⟨rfl,hz⟩;have H2:=Lib.hid (HU.out.2.1.then hz);clear hz))
     go_ret;refine⟨rfl,?_⟩;rw[←HU.out.1];rw[show ac F u=u from HT.out.2];exact H2.out
    ·rw[hb,pa hb] at ct;have hl:=HC.out.2.1 u hu;simp only[hb,if_true] at hl;have hlt:=HC.out.2.2.1 u hb;have HT:=Lib.hid (And.intro ct hl);clear ct hl hlu hz e1 hb;go_wp2_with (
       (go_at_call 87;with_reducible refine HT.out.1.mono ?_
        rintro e w2 ⟨rfl,hz⟩;have H2:=Lib.hid (HU.out.2.1.then hz);clear hz))
     refine⟨⟨ai u,hlt,?_,H2.out⟩,?_⟩
     ·rw[←HU.out.1];exact HT.out.2.symm
     ·rw[H2.out.m.pOf,HU.out.2.2];show F.length-(u.p+1)<F.length-u.p;omega
theorem rI {g:Nat} {fv:Value} {F:List Lf} {s t:Ps} {W:World} (k fn:Nat) (pre cap:Array Value) (h:Mk g fv F s W) (hl:s.l.length≤50000) (hk:k≤18) (hd:s.deep≤200)
    (eg:∀args w,(callFunc fn args).run Tryz.prog w=.ok (.enter fn args) w)
    (hf:∀W1,Mz g fv F W (ma k {s with deep:=s.deep+1}) W1→Calls Tryz.prog fn (pre++cap) W1 fun e w'=>e=.returned (.tuple #[])∧Mz g fv F W1 t w') (ht:s.l.length<t.l.length) (hp:t.p≤100000) (htd:t.deep=s.deep+1) :
    Calls Tryz.prog 159 #[.pointer (some ⟨g,0,none⟩),.int .i64 (k:Int),.func (.func fn) pre cap] W fun e w'=>e=.returned (.tuple #[])∧Mz g fv F W {t with up:=s.up,l:=dh t.l s.l.length t.p,deep:=t.deep-1} w':=by
  have c1:=fun W1 (h1:Mz g fv F W {s with deep:=s.deep+1} W1)=>lI (t:=t) k fn pre cap h1.m hl hk eg (fun W2 h2=>hf W2 (h1.then h2)) ht hp
  have v1:IntKind.i64.wrap ((s.deep:Int)+1)=((s.deep+1:Nat):Int):=by rw[IntWalk.i64_in _ (by omega)];omega
  have v2:IntKind.i64.wrap ((t.deep:Int)-1)=((t.deep-1:Nat):Int):=by rw[IntWalk.i64_in _ (by omega)];omega
  obtain⟨c0,ca,cb,c4,f1,f2,f3,f4⟩:=h.cells;have HC:=Lib.hid (And.intro c1 h);clear c1 hf h htd;go_enter Tryz.func159,Tryz.ntmps159;go_wp2_with (
    (go_at_call 64;have hz0:=(Mz.start HC.out.2).setDeep (s.deep+1);refine(HC.out.1 _ hz0).mono ?_;rintro e w1 ⟨rfl,hz⟩;have H1:=Lib.hid (hz0.then hz);obtain⟨c0,ca,cb,c4,f1,f2,f3,f4⟩:=hz.m.cells;replace c4:w1.cell? ⟨g,4,none⟩=some (.int .i64 (t.deep:Int)):=c4;clear hz hz0))
  first|go_end0|refine bn ?_
  exact⟨rfl,H1.out.setDeep (t.deep-1)⟩
theorem bW {g:Nat} {fv:Value} {F:List Lf} {s:Ps} {W:World} (hF:FB F) (h:Mk g fv F s W) (hs:s.p≤F.length) (cs:List UInt8) (hcs:cs.contains 0=false) (hb:am F cs s=true) :
    Calls Tryz.prog 87 #[.pointer (some ⟨g,0,none⟩),.string ⟨cs.toArray⟩] W fun e w'=>e=.returned (.bool true)∧Mz g fv F W (ai s) w':=by
  have c:=gw hF h hs cs hcs;rw[hb,pa hb] at c;exact c
theorem bB {g:Nat} {fv:Value} {F:List Lf} {s:Ps} {W:World} (hF:FB F) (h:Mk g fv F s W) (hs:s.p≤F.length) (cs:List UInt8) (hcs:cs.contains 0=false) (hb:am F cs s=false) :
    Calls Tryz.prog 87 #[.pointer (some ⟨g,0,none⟩),.string ⟨cs.toArray⟩] W fun e w'=>e=.returned (.bool false)∧Mz g fv F W (s) w':=by
  have c:=gw hF h hs cs hcs;rw[hb,pg hb] at c;exact c
theorem su {g:Nat} {fv:Value} {F:List Lf} {s:Ps} {W:World} (hF:FB F) (h:Mk g fv F s W) (hs:s.p≤F.length) (cs:List UInt8) (hcs:cs.contains 0=false) (hb:am F cs s=true) :
    Calls Tryz.prog 105 #[.pointer (some ⟨g,0,none⟩),.string ⟨cs.toArray⟩] W fun e w'=>e=.returned (.bool true)∧Mz g fv F W (s) w':=by
  have c:=mU hF h hs cs hcs;rw[hb] at c;exact c.mono fun e w' ⟨h1,h2⟩=>⟨h1,(Mz.start h).next h2⟩
theorem lh {g:Nat} {fv:Value} {F:List Lf} {s:Ps} {W:World} (hF:FB F) (h:Mk g fv F s W) (hs:s.p≤F.length) (cs:List UInt8) (hcs:cs.contains 0=false) (hb:am F cs s=false) :
    Calls Tryz.prog 105 #[.pointer (some ⟨g,0,none⟩),.string ⟨cs.toArray⟩] W fun e w'=>e=.returned (.bool false)∧Mz g fv F W (s) w':=by
  have c:=mU hF h hs cs hcs;rw[hb] at c;exact c.mono fun e w' ⟨h1,h2⟩=>⟨h1,(Mz.start h).next h2⟩
theorem pF {g:Nat} {fv:Value} {F:List Lf} {s:Ps} {W:World} (hF:FB F) (h:Mk g fv F s W) (hs:s.p≤F.length) (hb:aX F s=true) :
    f9 97 g fv F W (.bool true) (s):=by
  have c:=iM hF h hs;rw[hb] at c;exact c.mono fun e w' ⟨h1,h2⟩=>⟨h1,(Mz.start h).next h2⟩
theorem pG {g:Nat} {fv:Value} {F:List Lf} {s:Ps} {W:World} (hF:FB F) (h:Mk g fv F s W) (hs:s.p≤F.length) (hb:aX F s=false) :
    f9 97 g fv F W (.bool false) (s):=by
  have c:=iM hF h hs;rw[hb] at c;exact c.mono fun e w' ⟨h1,h2⟩=>⟨h1,(Mz.start h).next h2⟩
theorem lg {g:Nat} {fv:Value} {F:List Lf} {s:Ps} {W:World} (hF:FB F) (h:Mk g fv F s W) (hs:s.p≤F.length) (hb:cH F s=true) :
    f9 98 g fv F W (.bool true) (s):=by
  have c:=i9 hF h hs;rw[hb] at c;exact c.mono fun e w' ⟨h1,h2⟩=>⟨h1,(Mz.start h).next h2⟩
theorem fB {g:Nat} {fv:Value} {F:List Lf} {s:Ps} {W:World} (hF:FB F) (h:Mk g fv F s W) (hs:s.p≤F.length) (hb:cH F s=false) :
    f9 98 g fv F W (.bool false) (s):=by
  have c:=i9 hF h hs;rw[hb] at c;exact c.mono fun e w' ⟨h1,h2⟩=>⟨h1,(Mz.start h).next h2⟩
theorem sr {g:Nat} {fv:Value} {F:List Lf} {s:Ps} {W:World} (hF:FB F) (h:Mk g fv F s W) (hs:s.p≤F.length) (hb:lR F s=true) :
    f9 76 g fv F W (.bool true) (s):=by
  have c:=jW hF h hs;rw[hb] at c;exact c.mono fun e w' ⟨h1,h2⟩=>⟨h1,(Mz.start h).next h2⟩
theorem ss {g:Nat} {fv:Value} {F:List Lf} {s:Ps} {W:World} (hF:FB F) (h:Mk g fv F s W) (hs:s.p≤F.length) (hb:lR F s=false) :
    f9 76 g fv F W (.bool false) (s):=by
  have c:=jW hF h hs;rw[hb] at c;exact c.mono fun e w' ⟨h1,h2⟩=>⟨h1,(Mz.start h).next h2⟩
theorem iR {g:Nat} {fv:Value} {F:List Lf} {s:Ps} {W:World} (hF:FB F) (h:Mk g fv F s W) (hs:s.p≤F.length) (hb:bH F s=true) :
    f9 53 g fv F W (.bool true) (s):=by
  have c:=pO hF h hs;rw[hb] at c;exact c.mono fun e w' ⟨h1,h2⟩=>⟨h1,(Mz.start h).next h2⟩
theorem iS {g:Nat} {fv:Value} {F:List Lf} {s:Ps} {W:World} (hF:FB F) (h:Mk g fv F s W) (hs:s.p≤F.length) (hb:bH F s=false) :
    f9 53 g fv F W (.bool false) (s):=by
  have c:=pO hF h hs;rw[hb] at c;exact c.mono fun e w' ⟨h1,h2⟩=>⟨h1,(Mz.start h).next h2⟩
theorem rU {g:Nat} {fv:Value} {F:List Lf} {s:Ps} {W:World} (hF:FB F) (h:Mk g fv F s W) (hs:s.p≤F.length) (hb:my F s=true) :
    f9 158 g fv F W (.bool true) (s):=by
  have c:=nG hF h hs;rw[hb] at c;exact c.mono fun e w' ⟨h1,h2⟩=>⟨h1,(Mz.start h).next h2⟩
theorem me {g:Nat} {fv:Value} {F:List Lf} {s:Ps} {W:World} (hF:FB F) (h:Mk g fv F s W) (hs:s.p≤F.length) (hb:my F s=false) :
    f9 158 g fv F W (.bool false) (s):=by
  have c:=nG hF h hs;rw[hb] at c;exact c.mono fun e w' ⟨h1,h2⟩=>⟨h1,(Mz.start h).next h2⟩
theorem dH {g:Nat} {fv:Value} {F:List Lf} {s:Ps} {W:World} (hF:FB F) (h:Mk g fv F s W) (hs:s.p≤F.length) (hb:dW F s.p=true) :
    f9 196 g fv F W (.bool true) (s):=by
  have c:=gO hF h hs;rw[hb] at c;exact c.mono fun e w' ⟨h1,h2⟩=>⟨h1,(Mz.start h).next h2⟩
theorem cm {g:Nat} {fv:Value} {F:List Lf} {s:Ps} {W:World} (hF:FB F) (h:Mk g fv F s W) (hs:s.p≤F.length) (hb:dW F s.p=false) :
    f9 196 g fv F W (.bool false) (s):=by
  have c:=gO hF h hs;rw[hb] at c;exact c.mono fun e w' ⟨h1,h2⟩=>⟨h1,(Mz.start h).next h2⟩
theorem eW {g:Nat} {fv:Value} {F:List Lf} {s:Ps} {W:World} (hF:FB F) (h:Mk g fv F s W) (hs:s.p≤F.length) (hb:am F [110] s=true) :
    f9 106 g fv F W (.bool true) (ac F s):=by
  have c:=bF hF h hs;rw[hb] at c;exact c
theorem fN {g:Nat} {fv:Value} {F:List Lf} {s:Ps} {W:World} (hF:FB F) (h:Mk g fv F s W) (hs:s.p≤F.length) (hb:am F [110] s=false) :
    f9 106 g fv F W (.bool false) (ac F s):=by
  have c:=bF hF h hs;rw[hb] at c;exact c
theorem jq (k:Nat) (s:Ps):(ma k s).l.length=s.l.length+1:=by show (s.l++[_]).length=_;simp
theorem qV {g bx:Nat} {fv:Value} {F:List Lf} {s:Ps} {W:World} (hF:FB F) (h:Mk g fv F s W) (hB:Bd F 100 s) (hb:Bk W bx 101 #[.pointer (some ⟨g,0,none⟩)]) :
    Calls Tryz.prog 215 #[.pointer (some ⟨bx,0,none⟩)] W fun e w'=>e=.returned (.tuple #[])∧Mz g fv F W (aU F (aG F [60] (aG F [35] s))) w':=by
  have HBX:=Lib.hid hb;have hB1:=(hB.gd (bX (cs:=[35]) (by decide) hB.p)).mono (Nat.le_refl 100);have hB2:=(hB1.gd (bX (cs:=[60]) (by decide) hB1.p)).mono (Nat.le_refl 100);have HC1:=Lib.hid (fun W1 (h1:Mk g fv F (s) W1)=>gw hF h1 hB.p [35] (by decide));have HC2:=Lib.hid (fun W1 (h1:Mk g fv F (aG F [35] s) W1)=>gw hF h1 hB1.p [60] (by decide));have HC3:=Lib.hid (fun W1 (h1:Mk g fv F (aG F [60] (aG F [35] s)) W1)=>jn hF h1 hB2);have H0:=Lib.hid (Mz.start h);have b0:=HBX.out.cell 0;clear h hb;go_enter Tryz.func215,Tryz.ntmps215
  go_wp2_with (first
    | (go_at_call 87;with_reducible refine(HC1.out _ H0.out.m).mono ?_
       rintro e w1 ⟨rfl,hz⟩;have H1:=Lib.hid (H0.out.then hz);have b0:=(Bk.kt HBX.out H1.out.f.kt (by decide)).cell 0;clear hz)
    | (go_at_call 87;with_reducible refine(HC2.out _ H1.out.m).mono ?_
       rintro e w2 ⟨rfl,hz⟩;have H2:=Lib.hid (H1.out.then hz);have b0:=(Bk.kt HBX.out H2.out.f.kt (by decide)).cell 0;clear hz)
    | (go_at_call 194;with_reducible refine(HC3.out _ H2.out.m).mono ?_
       rintro e w3 ⟨rfl,hz⟩;have H3:=Lib.hid (H2.out.then hz);have b0:=(Bk.kt HBX.out H3.out.f.kt (by decide)).cell 0;clear hz)
    | fail)
  first|go_end0|refine bn ?_
  exact⟨rfl,H3.out⟩
theorem lZ {g:Nat} {fv:Value} {F:List Lf} {s:Ps} {W:World} (hF:FB F) (h:Mk g fv F s W) (hB:Bd F 99 s) (hb:aX F s=true) :
    f9 192 g fv F W (.bool true) (cD F s):=by
  have hn:=hF.n;have hg:=(iY hb).1;have hi:=hB.inn 8;have hx:∀W0,Mk g fv F s W0→∀bx,Bk W0 bx 101 #[.pointer (some ⟨g,0,none⟩)]→Calls Tryz.prog 64 #[.pointer (some ⟨g,0,none⟩),.int .i64 ((8:Nat):Int),.func (.func 215) #[] #[.pointer (some ⟨bx,0,none⟩)]] W0 fun e w'=>e=.returned (.tuple #[])∧Mz g fv F W0 (cD F s) w':=fun W0 h0 bx hbx=>by
    have hw1:=bX (F:=F) (cs:=[35]) (by decide) hi.p;have hw2:=bX (F:=F) (cs:=[60]) (by decide) hw1.N;have hw3:=dk hw2.N;have hlen:=((hw1.trans hw2).trans hw3).l;have hpN:=hw3.N;have hil:(ma 8 s).l.length=s.l.length+1:=jq 8 s
    exact lI (t:=aU F (aG F [60] (aG F [35] (ma 8 s)))) 8 _ #[] #[.pointer (some ⟨bx,0,none⟩)] h0 (hB.l5 hF (by omega)) (by omega) (enters_of Tryz.func215 (by kernel_rfl) rfl)
      (fun W1 h1=>qV hF h1.m hi (h1.box hbx (by decide))) (by omega) (by omega)
  have HX:=Lib.hid hx;have HC1:=Lib.hid (fun W1 (h1:Mk g fv F s W1)=>pF hF h1 hB.p hb);have H0:=Lib.hid (Mz.start h);clear h hx hg;go_enter Tryz.func192,Tryz.ntmps192;go_upto_region 1 with fail
  refine gQ fun W0 hb0 k0 _=>?_
  have HBX:=Lib.hid k0;have b0:=HBX.out.cell 0;have H1:=Lib.hid (H0.out.next hb0);have HZ:=Lib.hid (Mz.start H1.out.m);clear hb0 k0
  go_wp2_with (first
    | (go_at_call 97;with_reducible refine(HC1.out _ HZ.out.m).mono ?_
       rintro e w1 ⟨rfl,hz⟩;have H2:=Lib.hid (HZ.out.then hz);have b0:=(Bk.kt HBX.out H2.out.f.kt (by decide)).cell 0;clear hz)
    | (go_at_call 64;refine(HX.out _ H2.out.m _ (Bk.kt HBX.out H2.out.f.kt (by decide))).mono ?_;rintro e w2 ⟨rfl,hz⟩;have H3:=Lib.hid (H2.out.then hz);clear hz)
    | fail)
  go_ret;exact⟨rfl,H1.out.then H3.out⟩
theorem eU {g:Nat} {fv:Value} {F:List Lf} {s:Ps} {W:World} (hF:FB F) (h:Mk g fv F s W) (hB:Bd F 99 s) (hb:aX F s=false) :
    f9 192 g fv F W (.bool false) (s):=by
  have HC1:=Lib.hid (fun W1 (h1:Mk g fv F s W1)=>pG hF h1 hB.p hb);have H0:=Lib.hid (Mz.start h);clear h;go_enter Tryz.func192,Tryz.ntmps192;go_upto_region 1 with fail
  refine gQ fun W0 hb0 k0 _=>?_
  have b0:=k0.cell 0;have H1:=Lib.hid (H0.out.next hb0);clear hb0 k0;go_wp2_with (
    (go_at_call 97;with_reducible refine(HC1.out _ H1.out.m).mono (Mz.k H1 fun w1 H2=>?_)))
  go_ret;exact⟨rfl,H2.out⟩
end
end Go.Proofs.YtfagdpfgifgnoaaGreatDoor
