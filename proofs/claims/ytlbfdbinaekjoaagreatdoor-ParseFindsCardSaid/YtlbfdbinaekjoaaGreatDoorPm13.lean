/- The parser: a node is made. -/
import Derived.Test.YtlbfdbinaekjoaaGreatDoorMb13
import Derived.Shelf.Abstract
import Derived.Deep.CutBlock
namespace Go.Proofs.YtlbfdbinaekjoaaGreatDoor
open Go.RowKit
set_option linter.unusedVariables false
set_option linter.unusedSimpArgs false
set_option maxRecDepth 100000
theorem Tryz.infoNode:(Tryz.prog.info? 38).map (fun i=>(i.zero,i.size,i.bytes))=some (some (.agg #[.int .i64 0,.int .i64 0,.int .i64 0,.int .i64 0]),4,32):=by kernel_rfl
def inN (k:Nat) (s:Ps):Ps:={s with l:=s.l++[⟨k,s.p,0,s.up⟩],up:=(s.l.length:Int)}
set_option maxHeartbeats 4000000 in
theorem node_m {g:Nat} {fv:Value} {F:List Lf} {s t:Ps} {W:World} (k fn:Nat) (pre cap:Array Value) (h:Mk g fv F s W) (hl:s.l.length≤50000) (hk:k≤18)
    (eg:∀args w,(callFunc fn args).run Tryz.prog w=.ok (.enter fn args) w)
    (hf:∀W1,Mz g fv F W (inN k s) W1→Calls Tryz.prog fn (pre++cap) W1 fun e w'=>e=.returned (.tuple #[])∧Mz g fv F W1 t w') (ht:s.l.length<t.l.length) (hp:t.p≤100000) :
    Calls Tryz.prog 14 #[.pointer (some ⟨g,0,none⟩),.int .i64 (k:Int),.func (.func fn) pre cap] W fun e w'=>e=.returned (.tuple #[])∧Mz g fv F W {t with up:=s.up,l:=ndTo t.l s.l.length t.p} w':=by
  obtain⟨i0,hi0,hz0,hz1,hz2⟩:=info_parts Tryz.infoNode
  obtain⟨lv,hb,ho⟩:=h.w
  obtain⟨A,n,c,rfl⟩:=own_form' ho
  obtain rfl:=own_len ho
  obtain⟨c0,c1,c2,c3,c4⟩:=hb.fivem
  have f2:=hb.frozen 2
  have H0:=Lib.hid (And.intro h (And.intro hb (And.intro ho h.f)))
  have HF:=Lib.hid hf
  have hne:(Value.slice A s.l.length c).ownBlock≠some g:=own_ne ho hb (by decide)
  have hgl:=hb.lt
  clear hf h hb ho
  go_enter Tryz.func14,Tryz.ntmps14
  go_wp2
  go_quiet (fail)
  go_wp2
  have H1:=Lib.hid ((Mz.start H0.out.1).drew nq)
  have b1:Bk (W.drewN nq) g 42 _:=H0.out.2.1
  have o1:(W.drewN nq).ownsRow g 38 4 (.slice A s.l.length c) s.l.length (ndcs s.l):=H0.out.2.2.1
  have r1:Rd (W.drewN nq) g 4 fv F.length (lfcs F):=H0.out.2.2.2
  have g1:g<(W.drewN nq).heap.size:=hgl
  have H2:=Lib.hid (And.intro b1 (And.intro o1 r1))
  have HW:=Lib.hid (rfl:W.heap.size=(W.drewN nq).heap.size)
  clear c0 c1 c2 c3 c4 f2 b1 o1 r1 hgl
  generalize W.drewN nq=W1 at *
  obtain⟨c0,c1,c2,c3,c4⟩:=H2.out.1.fivem
  have f2:=H2.out.1.frozen 2
  go_region_law (first
    | (refine step_append_rd rfl (.tmp 21) (.tmp 29) 23 rfl g 38 i0 _ 4 32 Tryz.underlying23 hi0 hz0 hz1 hz2 rfl (by decide) (.slice A s.l.length c) s.l.length (ndcs s.l) (by simp[Act.eval]) (H2.out.2.1.alloc _) (.slice (some ⟨W1.heap.size,0,none⟩) 1 1) 1 (W1.heap.size+1) (ndcs [⟨k,s.p,0,s.up⟩]) (by simp[Act.eval]) (Rd.drew (rd_new W1 (ndcs [⟨k,s.p,0,s.up⟩]) 38 4 1 rfl (by omega))) (one_nd _) (by unfold maxLen;omega) (by omega) (by simp;omega) ?_
       intro v1 w1 hown1 hg1 hv1
       obtain⟨gn,cn,rfl⟩:=own_some hown1
       have kk:=(H2.out.1.alloc (.cells #[.int .i64 (k:Int),.int .i64 (s.p:Int),.int .i64 0,.int .i64 s.up] 38)).drew.grown hg1 (fun e=>hne e.symm)
       have y0:=kk.cell 2
       have y1:=kk.frozen 2
       have H3:=Lib.hid (And.intro hown1 hg1)
       clear hown1 hg1 hv1 kk))
  all_goals (
    have hbA:Below W1.heap.size W1 (W1.alloc (.cells #[.int .i64 (k:Int),.int .i64 (s.p:Int),.int .i64 0,.int .i64 s.up] 38)).drew:=((Below.refl _ W1).alloc (Nat.le_refl _) _).drew
    have hp:=Mk.push (x:=⟨k,s.p,0,s.up⟩) (H2.out.1.below hbA g1) (own_below H2.out.2.1 hbA) (H2.out.2.2.keep (hbA.mono (Nat.le_of_lt g1)) (Nat.le_refl _)) H3.out.1 H3.out.2
    have H4:=Lib.hid (Mz.mk (W:=W) hp.1 ((H1.out.next hbA).f.trans hp.2))
    clear y0 y1 hp hbA H3 c0 c1 c2 c3 c4 f2
    generalize w1.setCell {block:=g,off:=2} (Value.slice (some {block:=gn,off:=0}) (s.l.length+1) cn)=W3 at *
    obtain⟨c0,c1,c3,c4,f1,f2,f3,f4⟩:=H4.out.m.cells)
  all_goals (
    go_wp2_with (
      (have H5:Mz g fv F W (inN k s) _:=H4.out.setUp (s.l.length:Int)
       with_reducible refine(HF.out _ H5).mono ?_
       rintro e w5 ⟨rfl,hz⟩
       have H6:=Lib.hid (H5.then hz)
       obtain⟨d0,d1,d3,d4,e1,e2,e3,e4⟩:=hz.m.cells
       clear hz H5)))
  all_goals (
    have H7:=Lib.hid (H6.out.setUp s.up)
    clear d0 d1 d3 d4 e1 e2 e3 e4 c0 c1 c3 c4 f1 f2 f3 f4
    generalize w5.setCell {block:=g,off:=3} (Value.int IntKind.i64 s.up)=W7 at *
    obtain⟨m,hm⟩:∃m,t.l.length=m+1:=⟨t.l.length-1,by omega⟩
    obtain⟨lv,kb,ko⟩:=H7.out.m.w
    have kr:=H7.out.m.f
    obtain⟨ga,ca,rfl⟩:∃ga ca,lv=.slice (some ⟨ga,0,none⟩) t.l.length ca:=by
      rw[show ({t with up:=s.up}:Ps).l.length=m+1 from hm] at ko
      obtain⟨ga,ca,e⟩:=own_some ko
      exact⟨ga,ca,by rw[hm];exact e⟩
    obtain⟨d0,d1,d2,d3,d4⟩:=kb.fivem
    replace d1:W7.cell? ⟨g,1,none⟩=some (.int .i64 (t.p:Int)):=d1
    have x1:=own_frozen ko (s.l.length*4+2)
    obtain⟨v0,hv0⟩:∃v0,(ndcs t.l)[s.l.length*4+2]? = some v0:=⟨_,List.getElem?_eq_getElem (by rw[ndcs_len];omega)⟩
    have x2:=own_cell ko _ _ hv0
    have u1:(s.l.length:Int)<(t.l.length:Int):=by omega
    have u2:(0:Int)≤(s.l.length:Int):=by omega
    have HT:=Lib.hid (Mk.setTo kb ko kr s.l.length t.p ht)
    clear hm kb ko kr hp hv0)
  all_goals go_region
  all_goals go_wp2_with fail
  all_goals go_end0
  all_goals exact⟨rfl,(Mz.mk (W:=W) HT.out.1 (H7.out.f.trans HT.out.2)).next (Below.refl _ _).drew⟩
end Go.Proofs.YtlbfdbinaekjoaaGreatDoor
namespace Go.Proofs.YtlbfdbinaekjoaaGreatDoor
open Go.RowKit
set_option linter.unusedVariables false
set_option linter.unusedSimpArgs false
set_option maxRecDepth 100000
section
variable {P:Program} {md:Region.Mode} {ops:Array Oper} {Q:Exit→Act→World→Prop}
theorem allH0 {S:World→Prop} {K:Nat→Act→World→Prop} {a:Act} {w:World}:∀i∈([]:List Nat),wpOp P ops Q i (K i) a w:=fun _ h=>by cases h
theorem allH1 {S:World→Prop} {fuel:Nat} {listed:Array Bool} {a:Act} {w:World} {i:Nat} {o:Oper} {rs:List Nat} (ho:ops[i]? = some o) (hw:Region.wanted o (yielded ops a.tmps)=true)
    (h:∀K':Act→World→Prop,(∀a' w',S w'→wpAnyH P md ops Q S fuel (listed.setIfInBounds i true) a' w'→K' a' w')→o.wp P a w K' Q)
    (hs:∀j∈rs,wpOp P ops Q j (fun a' w'=>S w'∧wpAnyH P md ops Q S fuel (listed.setIfInBounds j true) a' w') a w) :
    ∀j∈i::rs,wpOp P ops Q j (fun a' w'=>S w'∧wpAnyH P md ops Q S fuel (listed.setIfInBounds j true) a' w') a w:=by
  intro j hj
  rcases List.mem_cons.1 hj with rfl|hj
  ·unfold wpOp
   simp only[ho]
   rw[if_pos hw]
   exact .inl (h _ fun a' w' h1 h2=>⟨h1,h2⟩)
  ·exact hs j hj
end
set_option maxHeartbeats 4000000 in
theorem function_m {g:Nat} {fv:Value} {F:List Lf} {s:Ps} {W:World} (hF:FB F) (h:Mk g fv F s W) (hs:s.p≤F.length) :
    Calls Tryz.prog 86 #[.pointer (some ⟨g,0,none⟩)] W fun e w'=>e=.returned (.bool (funB F s))∧Below W.heap.size W w':=by
  have hmix:Tryz.prog.follows .mixedOrders=true:=by kernel_rfl
  have c0:=fun W (h:Mk g fv F s W)=>sign_m hF h hs 0 s.p (by omega) (.inl rfl)
  have c1:=fun W (h:Mk g fv F s W)=>sign_m hF h hs 1 (s.p+1) (by omega) (.inr rfl)
  have hlx:sg F s.p=120→s.p<F.length:=fun e=>sg_lt (by rw[e];decide)
  have htx:∀x,F[s.p]? = some x→tx F s.p=x.tx:=fun x hx=>by unfold tx;rw[hx]
  unfold funB
  obtain⟨a,ha⟩:∃a,a=sg F s.p:=⟨_,rfl⟩
  obtain⟨b,hb⟩:∃b,b=sg F (s.p+1):=⟨_,rfl⟩
  rw[←ha] at hlx c0 ⊢
  rw[←hb] at c1 ⊢
  clear ha hb
  have k1:((a.toNat:Int)==120)=(a==120):=u8_beq a 120
  have k2:((b.toNat:Int)==40)=(b==40):=u8_beq b 40
  have hlx:(a==120)=true→s.p<F.length:=fun e=>hlx (by simpa using e)
  generalize (a==120)=x1 at *
  generalize (b==40)=x2 at *
  obtain⟨y0,y1,y3,y4,_⟩:=h.cells
  obtain⟨A,c,rfl⟩:=h.f.formm
  have HC:=Lib.hid (And.intro c0 (And.intro c1 h))
  clear c0 c1
  obtain⟨R,hR⟩:∃R,R=(x1&&(x2&&(decide (s.deep<200)&&nameT (tx F s.p)))):=⟨_,rfl⟩
  rw[←hR]
  have HR:=Lib.hid hR
  clear hR
  go_enter Tryz.func86,Tryz.ntmps86
  go_wp2_with fail
  obtain⟨S0,hS0⟩:∃S0:World→Prop,S0=fun w'=>Below W.heap.size W w':=⟨_,rfl⟩
  refine wp_region_held (S:=S0) hmix ?_
  show wpAnyH _ _ _ _ _ _ _ _ W.drew
  have hS1:S0 W.drew:=by rw[hS0];exact(Below.refl _ W).drew
  have tc:∀(w':World),S0 w'→∀(a:Addr) (v:Value),W.cell? a=some v→w'.cell? a=some v:=fun w' h a v hc=>bkp (by rw[hS0] at h;exact h) hc
  refine wpAnyH_take (i:=0) (v:=.pointer (some ⟨g,0,none⟩)) rfl (by decide +kernel) (by decide +kernel) (by decide +kernel) (fun _ _ _ h=>h) (Or.inl ⟨by rfl,fun w' hS=>?_⟩) hS1 ?_
  ·go_simp
  try simp only[Act.put,List.getElem_toArray,List.getElem_cons_succ,List.getElem_cons_zero,List.setIfInBounds_toArray,List.set_cons_zero,List.set_cons_succ]
  refine wpAnyH_all (rs:=[1]) (by decide +kernel) (by simp) (allH1 rfl (by rfl) (fun K2 hK2=>?_) (allH0 (S:=S0)))
  go_simp
  go_at_call 49
  refine(HC.out.1 _ (HC.out.2.2.next (Below.refl _ W).drew).1).mono ?_
  rintro e w1 ⟨rfl,hb⟩
  have H1:=Lib.hid ((Below.refl _ W).drew.trans hb)
  clear hb
  have hS2:S0 w1:=by rw[hS0];exact H1.out
  refine hK2 _ _ hS2 ?_
  clear hK2 K2
  try simp only[Act.put,List.getElem_toArray,List.getElem_cons_succ,List.getElem_cons_zero,List.setIfInBounds_toArray,List.set_cons_zero,List.set_cons_succ]
  cases x1
  ·clear h hlx htx
   refine wpAnyH_take (i:=2) (v:=.bool false) rfl (by decide +kernel) (by decide +kernel) (by decide +kernel) (fun _ _ _ h=>h) (Or.inl ⟨by rfl,fun w' hS=>?_⟩) hS2 ?_
   ·go_simp
   try simp only[Act.put,List.getElem_toArray,List.getElem_cons_succ,List.getElem_cons_zero,List.setIfInBounds_toArray,List.set_cons_zero,List.set_cons_succ]
   refine wpAnyH_take (i:=3) (v:=.bool false) rfl (by decide +kernel) (by decide +kernel) (by decide +kernel) (fun _ _ _ h=>h) (Or.inl ⟨by rfl,fun w' hS=>?_⟩) hS2 ?_
   ·go_simp
   try simp only[Act.put,List.getElem_toArray,List.getElem_cons_succ,List.getElem_cons_zero,List.setIfInBounds_toArray,List.set_cons_zero,List.set_cons_succ]
   refine wpAnyH_take (i:=4) (v:=undef) rfl (by decide +kernel) (by decide +kernel) (by decide +kernel) (fun _ _ _ h=>h) (Or.inr ⟨by rfl,rfl⟩) hS2 ?_
   try simp only[Act.put,List.getElem_toArray,List.getElem_cons_succ,List.getElem_cons_zero,List.setIfInBounds_toArray,List.set_cons_zero,List.set_cons_succ]
   refine wpAnyH_take (i:=5) (v:=undef) rfl (by decide +kernel) (by decide +kernel) (by decide +kernel) (fun _ _ _ h=>h) (Or.inr ⟨by rfl,rfl⟩) hS2 ?_
   try simp only[Act.put,List.getElem_toArray,List.getElem_cons_succ,List.getElem_cons_zero,List.setIfInBounds_toArray,List.set_cons_zero,List.set_cons_succ]
   refine wpAnyH_take (i:=6) (v:=undef) rfl (by decide +kernel) (by decide +kernel) (by decide +kernel) (fun _ _ _ h=>h) (Or.inr ⟨by rfl,rfl⟩) hS2 ?_
   try simp only[Act.put,List.getElem_toArray,List.getElem_cons_succ,List.getElem_cons_zero,List.setIfInBounds_toArray,List.set_cons_zero,List.set_cons_succ]
   refine wpAnyH_take (i:=7) (v:=.bool false) rfl (by decide +kernel) (by decide +kernel) (by decide +kernel) (fun _ _ _ h=>h) (Or.inl ⟨by rfl,fun w' hS=>?_⟩) hS2 ?_
   ·go_simp
   try simp only[Act.put,List.getElem_toArray,List.getElem_cons_succ,List.getElem_cons_zero,List.setIfInBounds_toArray,List.set_cons_zero,List.set_cons_succ]
   refine wpAnyH_take (i:=8) (v:=.bool false) rfl (by decide +kernel) (by decide +kernel) (by decide +kernel) (fun _ _ _ h=>h) (Or.inl ⟨by rfl,fun w' hS=>?_⟩) hS2 ?_
   ·go_simp
   try simp only[Act.put,List.getElem_toArray,List.getElem_cons_succ,List.getElem_cons_zero,List.setIfInBounds_toArray,List.set_cons_zero,List.set_cons_succ]
   refine wpAnyH_take (i:=9) (v:=undef) rfl (by decide +kernel) (by decide +kernel) (by decide +kernel) (fun _ _ _ h=>h) (Or.inr ⟨by rfl,rfl⟩) hS2 ?_
   try simp only[Act.put,List.getElem_toArray,List.getElem_cons_succ,List.getElem_cons_zero,List.setIfInBounds_toArray,List.set_cons_zero,List.set_cons_succ]
   refine wpAnyH_take (i:=10) (v:=undef) rfl (by decide +kernel) (by decide +kernel) (by decide +kernel) (fun _ _ _ h=>h) (Or.inr ⟨by rfl,rfl⟩) hS2 ?_
   try simp only[Act.put,List.getElem_toArray,List.getElem_cons_succ,List.getElem_cons_zero,List.setIfInBounds_toArray,List.set_cons_zero,List.set_cons_succ]
   refine wpAnyH_take (i:=11) (v:=undef) rfl (by decide +kernel) (by decide +kernel) (by decide +kernel) (fun _ _ _ h=>h) (Or.inr ⟨by rfl,rfl⟩) hS2 ?_
   try simp only[Act.put,List.getElem_toArray,List.getElem_cons_succ,List.getElem_cons_zero,List.setIfInBounds_toArray,List.set_cons_zero,List.set_cons_succ]
   refine wpAnyH_take (i:=12) (v:=undef) rfl (by decide +kernel) (by decide +kernel) (by decide +kernel) (fun _ _ _ h=>h) (Or.inr ⟨by rfl,rfl⟩) hS2 ?_
   try simp only[Act.put,List.getElem_toArray,List.getElem_cons_succ,List.getElem_cons_zero,List.setIfInBounds_toArray,List.set_cons_zero,List.set_cons_succ]
   refine wpAnyH_take (i:=13) (v:=undef) rfl (by decide +kernel) (by decide +kernel) (by decide +kernel) (fun _ _ _ h=>h) (Or.inr ⟨by rfl,rfl⟩) hS2 ?_
   try simp only[Act.put,List.getElem_toArray,List.getElem_cons_succ,List.getElem_cons_zero,List.setIfInBounds_toArray,List.set_cons_zero,List.set_cons_succ]
   refine wpAnyH_take (i:=14) (v:=.bool false) rfl (by decide +kernel) (by decide +kernel) (by decide +kernel) (fun _ _ _ h=>h) (Or.inl ⟨by rfl,fun w' hS=>?_⟩) hS2 ?_
   ·go_simp
   try simp only[Act.put,List.getElem_toArray,List.getElem_cons_succ,List.getElem_cons_zero,List.setIfInBounds_toArray,List.set_cons_zero,List.set_cons_succ]
   refine wpAnyH_take (i:=15) (v:=.bool false) rfl (by decide +kernel) (by decide +kernel) (by decide +kernel) (fun _ _ _ h=>h) (Or.inl ⟨by rfl,fun w' hS=>?_⟩) hS2 ?_
   ·go_simp
   try simp only[Act.put,List.getElem_toArray,List.getElem_cons_succ,List.getElem_cons_zero,List.setIfInBounds_toArray,List.set_cons_zero,List.set_cons_succ]
   refine wpAnyH_take (i:=16) (v:=undef) rfl (by decide +kernel) (by decide +kernel) (by decide +kernel) (fun _ _ _ h=>h) (Or.inr ⟨by rfl,rfl⟩) hS2 ?_
   try simp only[Act.put,List.getElem_toArray,List.getElem_cons_succ,List.getElem_cons_zero,List.setIfInBounds_toArray,List.set_cons_zero,List.set_cons_succ]
   refine wpAnyH_take (i:=17) (v:=undef) rfl (by decide +kernel) (by decide +kernel) (by decide +kernel) (fun _ _ _ h=>h) (Or.inr ⟨by rfl,rfl⟩) hS2 ?_
   try simp only[Act.put,List.getElem_toArray,List.getElem_cons_succ,List.getElem_cons_zero,List.setIfInBounds_toArray,List.set_cons_zero,List.set_cons_succ]
   refine wpAnyH_take (i:=18) (v:=undef) rfl (by decide +kernel) (by decide +kernel) (by decide +kernel) (fun _ _ _ h=>h) (Or.inr ⟨by rfl,rfl⟩) hS2 ?_
   try simp only[Act.put,List.getElem_toArray,List.getElem_cons_succ,List.getElem_cons_zero,List.setIfInBounds_toArray,List.set_cons_zero,List.set_cons_succ]
   refine wpAnyH_take (i:=19) (v:=undef) rfl (by decide +kernel) (by decide +kernel) (by decide +kernel) (fun _ _ _ h=>h) (Or.inr ⟨by rfl,rfl⟩) hS2 ?_
   try simp only[Act.put,List.getElem_toArray,List.getElem_cons_succ,List.getElem_cons_zero,List.setIfInBounds_toArray,List.set_cons_zero,List.set_cons_succ]
   refine wpAnyH_take (i:=20) (v:=undef) rfl (by decide +kernel) (by decide +kernel) (by decide +kernel) (fun _ _ _ h=>h) (Or.inr ⟨by rfl,rfl⟩) hS2 ?_
   try simp only[Act.put,List.getElem_toArray,List.getElem_cons_succ,List.getElem_cons_zero,List.setIfInBounds_toArray,List.set_cons_zero,List.set_cons_succ]
   refine wpAnyH_take (i:=21) (v:=undef) rfl (by decide +kernel) (by decide +kernel) (by decide +kernel) (fun _ _ _ h=>h) (Or.inr ⟨by rfl,rfl⟩) hS2 ?_
   try simp only[Act.put,List.getElem_toArray,List.getElem_cons_succ,List.getElem_cons_zero,List.setIfInBounds_toArray,List.set_cons_zero,List.set_cons_succ]
   refine wpAnyH_take (i:=22) (v:=undef) rfl (by decide +kernel) (by decide +kernel) (by decide +kernel) (fun _ _ _ h=>h) (Or.inr ⟨by rfl,rfl⟩) hS2 ?_
   try simp only[Act.put,List.getElem_toArray,List.getElem_cons_succ,List.getElem_cons_zero,List.setIfInBounds_toArray,List.set_cons_zero,List.set_cons_succ]
   refine wpAnyH_take (i:=23) (v:=undef) rfl (by decide +kernel) (by decide +kernel) (by decide +kernel) (fun _ _ _ h=>h) (Or.inr ⟨by rfl,rfl⟩) hS2 ?_
   try simp only[Act.put,List.getElem_toArray,List.getElem_cons_succ,List.getElem_cons_zero,List.setIfInBounds_toArray,List.set_cons_zero,List.set_cons_succ]
   refine wpAnyH_take (i:=24) (v:=undef) rfl (by decide +kernel) (by decide +kernel) (by decide +kernel) (fun _ _ _ h=>h) (Or.inr ⟨by rfl,rfl⟩) hS2 ?_
   try simp only[Act.put,List.getElem_toArray,List.getElem_cons_succ,List.getElem_cons_zero,List.setIfInBounds_toArray,List.set_cons_zero,List.set_cons_succ]
   refine wpAnyH_take (i:=25) (v:=undef) rfl (by decide +kernel) (by decide +kernel) (by decide +kernel) (fun _ _ _ h=>h) (Or.inr ⟨by rfl,rfl⟩) hS2 ?_
   try simp only[Act.put,List.getElem_toArray,List.getElem_cons_succ,List.getElem_cons_zero,List.setIfInBounds_toArray,List.set_cons_zero,List.set_cons_succ]
   refine wpAnyH_take (i:=26) (v:=undef) rfl (by decide +kernel) (by decide +kernel) (by decide +kernel) (fun _ _ _ h=>h) (Or.inr ⟨by rfl,rfl⟩) hS2 ?_
   try simp only[Act.put,List.getElem_toArray,List.getElem_cons_succ,List.getElem_cons_zero,List.setIfInBounds_toArray,List.set_cons_zero,List.set_cons_succ]
   refine wpAnyH_take (i:=27) (v:=undef) rfl (by decide +kernel) (by decide +kernel) (by decide +kernel) (fun _ _ _ h=>h) (Or.inr ⟨by rfl,rfl⟩) hS2 ?_
   try simp only[Act.put,List.getElem_toArray,List.getElem_cons_succ,List.getElem_cons_zero,List.setIfInBounds_toArray,List.set_cons_zero,List.set_cons_succ]
   refine wpAnyH_take (i:=28) (v:=.bool false) rfl (by decide +kernel) (by decide +kernel) (by decide +kernel) (fun _ _ _ h=>h) (Or.inl ⟨by rfl,fun w' hS=>?_⟩) hS2 ?_
   ·go_simp
   try simp only[Act.put,List.getElem_toArray,List.getElem_cons_succ,List.getElem_cons_zero,List.setIfInBounds_toArray,List.set_cons_zero,List.set_cons_succ]
   refine wpAnyH_take (i:=29) (v:=.bool false) rfl (by decide +kernel) (by decide +kernel) (by decide +kernel) (fun _ _ _ h=>h) (Or.inl ⟨by rfl,fun w' hS=>?_⟩) hS2 ?_
   ·go_simp
   try simp only[Act.put,List.getElem_toArray,List.getElem_cons_succ,List.getElem_cons_zero,List.setIfInBounds_toArray,List.set_cons_zero,List.set_cons_succ]
   refine wpAnyH_done (by decide +kernel) ?_ _
   go_wp2_with fail
   go_ret
   exact⟨by rw[show R=false from HR.out];rfl,H1.out⟩
  ·have hlt:=hlx rfl
   obtain⟨x,hx⟩:∃x,F[s.p]? = some x:=⟨_,List.getElem?_eq_getElem hlt⟩
   have htx:=htx x hx
   have htl:=hF.t x (List.mem_of_getElem? hx)
   obtain⟨g1,o1,rfl,z0,z1,z2,z3⟩:=lf_cells h.f hx rfl
   have u1:(s.p:Int)<(F.length:Int):=by omega
   have u2:(0:Int)≤(s.p:Int):=by omega
   have hn:=fun W=>isname_m x.tx W (by omega)
   rw[htx] at HR
   generalize nameT x.tx=nb at *
   have HN:=Lib.hid hn
   clear h hlx htx hx htl hn hlt z0 z2 z3
   refine wpAnyH_take (i:=2) (v:=.bool true) rfl (by decide +kernel) (by decide +kernel) (by decide +kernel) (fun _ _ _ h=>h) (Or.inl ⟨by rfl,fun w' hS=>?_⟩) hS2 ?_
   ·go_simp
   try simp only[Act.put,List.getElem_toArray,List.getElem_cons_succ,List.getElem_cons_zero,List.setIfInBounds_toArray,List.set_cons_zero,List.set_cons_succ]
   refine wpAnyH_take (i:=3) (v:=.bool true) rfl (by decide +kernel) (by decide +kernel) (by decide +kernel) (fun _ _ _ h=>h) (Or.inl ⟨by rfl,fun w' hS=>?_⟩) hS2 ?_
   ·go_simp
   try simp only[Act.put,List.getElem_toArray,List.getElem_cons_succ,List.getElem_cons_zero,List.setIfInBounds_toArray,List.set_cons_zero,List.set_cons_succ]
   refine wpAnyH_take (i:=4) (v:=.pointer (some ⟨g,0,none⟩)) rfl (by decide +kernel) (by decide +kernel) (by decide +kernel) (fun _ _ _ h=>h) (Or.inl ⟨by rfl,fun w' hS=>?_⟩) hS2 ?_
   ·go_simp
   try simp only[Act.put,List.getElem_toArray,List.getElem_cons_succ,List.getElem_cons_zero,List.setIfInBounds_toArray,List.set_cons_zero,List.set_cons_succ]
   refine wpAnyH_all (rs:=[5]) (by decide +kernel) (by simp) (allH1 rfl (by rfl) (fun K2 hK2=>?_) (allH0 (S:=S0)))
   go_simp
   go_at_call 49
   refine(HC.out.2.1 _ (HC.out.2.2.next H1.out).1).mono ?_
   rintro e w2 ⟨rfl,hb⟩
   have H2:=Lib.hid (H1.out.trans (hb.mono H1.out.size))
   clear hb
   have hS3:S0 w2:=by rw[hS0];exact H2.out
   refine hK2 _ _ hS3 ?_
   clear hK2 K2
   try simp only[Act.put,List.getElem_toArray,List.getElem_cons_succ,List.getElem_cons_zero,List.setIfInBounds_toArray,List.set_cons_zero,List.set_cons_succ]
   cases x2
   ·refine wpAnyH_take (i:=6) (v:=.bool false) rfl (by decide +kernel) (by decide +kernel) (by decide +kernel) (fun _ _ _ h=>h) (Or.inl ⟨by rfl,fun w' hS=>?_⟩) hS3 ?_
    ·go_simp
    try simp only[Act.put,List.getElem_toArray,List.getElem_cons_succ,List.getElem_cons_zero,List.setIfInBounds_toArray,List.set_cons_zero,List.set_cons_succ]
    refine wpAnyH_take (i:=7) (v:=.bool false) rfl (by decide +kernel) (by decide +kernel) (by decide +kernel) (fun _ _ _ h=>h) (Or.inl ⟨by rfl,fun w' hS=>?_⟩) hS3 ?_
    ·go_simp
    try simp only[Act.put,List.getElem_toArray,List.getElem_cons_succ,List.getElem_cons_zero,List.setIfInBounds_toArray,List.set_cons_zero,List.set_cons_succ]
    refine wpAnyH_take (i:=8) (v:=.bool false) rfl (by decide +kernel) (by decide +kernel) (by decide +kernel) (fun _ _ _ h=>h) (Or.inl ⟨by rfl,fun w' hS=>?_⟩) hS3 ?_
    ·go_simp
    try simp only[Act.put,List.getElem_toArray,List.getElem_cons_succ,List.getElem_cons_zero,List.setIfInBounds_toArray,List.set_cons_zero,List.set_cons_succ]
    refine wpAnyH_take (i:=9) (v:=undef) rfl (by decide +kernel) (by decide +kernel) (by decide +kernel) (fun _ _ _ h=>h) (Or.inr ⟨by rfl,rfl⟩) hS3 ?_
    try simp only[Act.put,List.getElem_toArray,List.getElem_cons_succ,List.getElem_cons_zero,List.setIfInBounds_toArray,List.set_cons_zero,List.set_cons_succ]
    refine wpAnyH_take (i:=10) (v:=undef) rfl (by decide +kernel) (by decide +kernel) (by decide +kernel) (fun _ _ _ h=>h) (Or.inr ⟨by rfl,rfl⟩) hS3 ?_
    try simp only[Act.put,List.getElem_toArray,List.getElem_cons_succ,List.getElem_cons_zero,List.setIfInBounds_toArray,List.set_cons_zero,List.set_cons_succ]
    refine wpAnyH_take (i:=11) (v:=undef) rfl (by decide +kernel) (by decide +kernel) (by decide +kernel) (fun _ _ _ h=>h) (Or.inr ⟨by rfl,rfl⟩) hS3 ?_
    try simp only[Act.put,List.getElem_toArray,List.getElem_cons_succ,List.getElem_cons_zero,List.setIfInBounds_toArray,List.set_cons_zero,List.set_cons_succ]
    refine wpAnyH_take (i:=12) (v:=undef) rfl (by decide +kernel) (by decide +kernel) (by decide +kernel) (fun _ _ _ h=>h) (Or.inr ⟨by rfl,rfl⟩) hS3 ?_
    try simp only[Act.put,List.getElem_toArray,List.getElem_cons_succ,List.getElem_cons_zero,List.setIfInBounds_toArray,List.set_cons_zero,List.set_cons_succ]
    refine wpAnyH_take (i:=13) (v:=undef) rfl (by decide +kernel) (by decide +kernel) (by decide +kernel) (fun _ _ _ h=>h) (Or.inr ⟨by rfl,rfl⟩) hS3 ?_
    try simp only[Act.put,List.getElem_toArray,List.getElem_cons_succ,List.getElem_cons_zero,List.setIfInBounds_toArray,List.set_cons_zero,List.set_cons_succ]
    refine wpAnyH_take (i:=14) (v:=.bool false) rfl (by decide +kernel) (by decide +kernel) (by decide +kernel) (fun _ _ _ h=>h) (Or.inl ⟨by rfl,fun w' hS=>?_⟩) hS3 ?_
    ·go_simp
    try simp only[Act.put,List.getElem_toArray,List.getElem_cons_succ,List.getElem_cons_zero,List.setIfInBounds_toArray,List.set_cons_zero,List.set_cons_succ]
    refine wpAnyH_take (i:=15) (v:=.bool false) rfl (by decide +kernel) (by decide +kernel) (by decide +kernel) (fun _ _ _ h=>h) (Or.inl ⟨by rfl,fun w' hS=>?_⟩) hS3 ?_
    ·go_simp
    try simp only[Act.put,List.getElem_toArray,List.getElem_cons_succ,List.getElem_cons_zero,List.setIfInBounds_toArray,List.set_cons_zero,List.set_cons_succ]
    refine wpAnyH_take (i:=16) (v:=undef) rfl (by decide +kernel) (by decide +kernel) (by decide +kernel) (fun _ _ _ h=>h) (Or.inr ⟨by rfl,rfl⟩) hS3 ?_
    try simp only[Act.put,List.getElem_toArray,List.getElem_cons_succ,List.getElem_cons_zero,List.setIfInBounds_toArray,List.set_cons_zero,List.set_cons_succ]
    refine wpAnyH_take (i:=17) (v:=undef) rfl (by decide +kernel) (by decide +kernel) (by decide +kernel) (fun _ _ _ h=>h) (Or.inr ⟨by rfl,rfl⟩) hS3 ?_
    try simp only[Act.put,List.getElem_toArray,List.getElem_cons_succ,List.getElem_cons_zero,List.setIfInBounds_toArray,List.set_cons_zero,List.set_cons_succ]
    refine wpAnyH_take (i:=18) (v:=undef) rfl (by decide +kernel) (by decide +kernel) (by decide +kernel) (fun _ _ _ h=>h) (Or.inr ⟨by rfl,rfl⟩) hS3 ?_
    try simp only[Act.put,List.getElem_toArray,List.getElem_cons_succ,List.getElem_cons_zero,List.setIfInBounds_toArray,List.set_cons_zero,List.set_cons_succ]
    refine wpAnyH_take (i:=19) (v:=undef) rfl (by decide +kernel) (by decide +kernel) (by decide +kernel) (fun _ _ _ h=>h) (Or.inr ⟨by rfl,rfl⟩) hS3 ?_
    try simp only[Act.put,List.getElem_toArray,List.getElem_cons_succ,List.getElem_cons_zero,List.setIfInBounds_toArray,List.set_cons_zero,List.set_cons_succ]
    refine wpAnyH_take (i:=20) (v:=undef) rfl (by decide +kernel) (by decide +kernel) (by decide +kernel) (fun _ _ _ h=>h) (Or.inr ⟨by rfl,rfl⟩) hS3 ?_
    try simp only[Act.put,List.getElem_toArray,List.getElem_cons_succ,List.getElem_cons_zero,List.setIfInBounds_toArray,List.set_cons_zero,List.set_cons_succ]
    refine wpAnyH_take (i:=21) (v:=undef) rfl (by decide +kernel) (by decide +kernel) (by decide +kernel) (fun _ _ _ h=>h) (Or.inr ⟨by rfl,rfl⟩) hS3 ?_
    try simp only[Act.put,List.getElem_toArray,List.getElem_cons_succ,List.getElem_cons_zero,List.setIfInBounds_toArray,List.set_cons_zero,List.set_cons_succ]
    refine wpAnyH_take (i:=22) (v:=undef) rfl (by decide +kernel) (by decide +kernel) (by decide +kernel) (fun _ _ _ h=>h) (Or.inr ⟨by rfl,rfl⟩) hS3 ?_
    try simp only[Act.put,List.getElem_toArray,List.getElem_cons_succ,List.getElem_cons_zero,List.setIfInBounds_toArray,List.set_cons_zero,List.set_cons_succ]
    refine wpAnyH_take (i:=23) (v:=undef) rfl (by decide +kernel) (by decide +kernel) (by decide +kernel) (fun _ _ _ h=>h) (Or.inr ⟨by rfl,rfl⟩) hS3 ?_
    try simp only[Act.put,List.getElem_toArray,List.getElem_cons_succ,List.getElem_cons_zero,List.setIfInBounds_toArray,List.set_cons_zero,List.set_cons_succ]
    refine wpAnyH_take (i:=24) (v:=undef) rfl (by decide +kernel) (by decide +kernel) (by decide +kernel) (fun _ _ _ h=>h) (Or.inr ⟨by rfl,rfl⟩) hS3 ?_
    try simp only[Act.put,List.getElem_toArray,List.getElem_cons_succ,List.getElem_cons_zero,List.setIfInBounds_toArray,List.set_cons_zero,List.set_cons_succ]
    refine wpAnyH_take (i:=25) (v:=undef) rfl (by decide +kernel) (by decide +kernel) (by decide +kernel) (fun _ _ _ h=>h) (Or.inr ⟨by rfl,rfl⟩) hS3 ?_
    try simp only[Act.put,List.getElem_toArray,List.getElem_cons_succ,List.getElem_cons_zero,List.setIfInBounds_toArray,List.set_cons_zero,List.set_cons_succ]
    refine wpAnyH_take (i:=26) (v:=undef) rfl (by decide +kernel) (by decide +kernel) (by decide +kernel) (fun _ _ _ h=>h) (Or.inr ⟨by rfl,rfl⟩) hS3 ?_
    try simp only[Act.put,List.getElem_toArray,List.getElem_cons_succ,List.getElem_cons_zero,List.setIfInBounds_toArray,List.set_cons_zero,List.set_cons_succ]
    refine wpAnyH_take (i:=27) (v:=undef) rfl (by decide +kernel) (by decide +kernel) (by decide +kernel) (fun _ _ _ h=>h) (Or.inr ⟨by rfl,rfl⟩) hS3 ?_
    try simp only[Act.put,List.getElem_toArray,List.getElem_cons_succ,List.getElem_cons_zero,List.setIfInBounds_toArray,List.set_cons_zero,List.set_cons_succ]
    refine wpAnyH_take (i:=28) (v:=.bool false) rfl (by decide +kernel) (by decide +kernel) (by decide +kernel) (fun _ _ _ h=>h) (Or.inl ⟨by rfl,fun w' hS=>?_⟩) hS3 ?_
    ·go_simp
    try simp only[Act.put,List.getElem_toArray,List.getElem_cons_succ,List.getElem_cons_zero,List.setIfInBounds_toArray,List.set_cons_zero,List.set_cons_succ]
    refine wpAnyH_take (i:=29) (v:=.bool false) rfl (by decide +kernel) (by decide +kernel) (by decide +kernel) (fun _ _ _ h=>h) (Or.inl ⟨by rfl,fun w' hS=>?_⟩) hS3 ?_
    ·go_simp
    try simp only[Act.put,List.getElem_toArray,List.getElem_cons_succ,List.getElem_cons_zero,List.setIfInBounds_toArray,List.set_cons_zero,List.set_cons_succ]
    refine wpAnyH_done (by decide +kernel) ?_ _
    go_wp2_with fail
    go_ret
    exact⟨by rw[show R=false from HR.out];rfl,H2.out⟩
   ·refine wpAnyH_take (i:=6) (v:=.bool true) rfl (by decide +kernel) (by decide +kernel) (by decide +kernel) (fun _ _ _ h=>h) (Or.inl ⟨by rfl,fun w' hS=>?_⟩) hS3 ?_
    ·go_simp
    try simp only[Act.put,List.getElem_toArray,List.getElem_cons_succ,List.getElem_cons_zero,List.setIfInBounds_toArray,List.set_cons_zero,List.set_cons_succ]
    refine wpAnyH_take (i:=7) (v:=.bool true) rfl (by decide +kernel) (by decide +kernel) (by decide +kernel) (fun _ _ _ h=>h) (Or.inl ⟨by rfl,fun w' hS=>?_⟩) hS3 ?_
    ·go_simp
    try simp only[Act.put,List.getElem_toArray,List.getElem_cons_succ,List.getElem_cons_zero,List.setIfInBounds_toArray,List.set_cons_zero,List.set_cons_succ]
    refine wpAnyH_take (i:=8) (v:=.bool true) rfl (by decide +kernel) (by decide +kernel) (by decide +kernel) (fun _ _ _ h=>h) (Or.inl ⟨by rfl,fun w' hS=>?_⟩) hS3 ?_
    ·go_simp
    try simp only[Act.put,List.getElem_toArray,List.getElem_cons_succ,List.getElem_cons_zero,List.setIfInBounds_toArray,List.set_cons_zero,List.set_cons_succ]
    refine wpAnyH_take (i:=9) (v:=.pointer (some ⟨g,0,none⟩)) rfl (by decide +kernel) (by decide +kernel) (by decide +kernel) (fun _ _ _ h=>h) (Or.inl ⟨by rfl,fun w' hS=>?_⟩) hS3 ?_
    ·go_simp
    try simp only[Act.put,List.getElem_toArray,List.getElem_cons_succ,List.getElem_cons_zero,List.setIfInBounds_toArray,List.set_cons_zero,List.set_cons_succ]
    refine wpAnyH_take (i:=10) (v:=.pointer (some ⟨g,0,none⟩)) rfl (by decide +kernel) (by decide +kernel) (by decide +kernel) (fun _ _ _ h=>h) (Or.inl ⟨by rfl,fun w' hS=>?_⟩) hS3 ?_
    ·go_simp
    try simp only[Act.put,List.getElem_toArray,List.getElem_cons_succ,List.getElem_cons_zero,List.setIfInBounds_toArray,List.set_cons_zero,List.set_cons_succ]
    refine wpAnyH_take (i:=11) (v:=.pointer (some ⟨g,4,none⟩)) rfl (by decide +kernel) (by decide +kernel) (by decide +kernel) (fun _ _ _ h=>h) (Or.inl ⟨by rfl,fun w' hS=>?_⟩) hS3 ?_
    ·go_simp
    try simp only[Act.put,List.getElem_toArray,List.getElem_cons_succ,List.getElem_cons_zero,List.setIfInBounds_toArray,List.set_cons_zero,List.set_cons_succ]
    refine wpAnyH_take (i:=12) (v:=.int .i64 (s.deep:Int)) rfl (by decide +kernel) (by decide +kernel) (by decide +kernel) (fun _ _ _ h=>h) (Or.inl ⟨by rfl,fun w' hS=>?_⟩) hS3 ?_
    ·have c0:=tc w' hS _ _ y4;go_simp
    try simp only[Act.put,List.getElem_toArray,List.getElem_cons_succ,List.getElem_cons_zero,List.setIfInBounds_toArray,List.set_cons_zero,List.set_cons_succ]
    by_cases hd:s.deep<200
    ·rw[decide_eq_true hd] at HR
     have hd2:(s.deep:Int)<200:=by omega
     clear hd
     refine wpAnyH_take (i:=13) (v:=.bool true) rfl (by decide +kernel) (by decide +kernel) (by decide +kernel) (fun _ _ _ h=>h) (Or.inl ⟨by rfl,fun w' hS=>?_⟩) hS3 ?_
     ·go_simp
     try simp only[Act.put,List.getElem_toArray,List.getElem_cons_succ,List.getElem_cons_zero,List.setIfInBounds_toArray,List.set_cons_zero,List.set_cons_succ]
     refine wpAnyH_take (i:=14) (v:=.bool true) rfl (by decide +kernel) (by decide +kernel) (by decide +kernel) (fun _ _ _ h=>h) (Or.inl ⟨by rfl,fun w' hS=>?_⟩) hS3 ?_
     ·go_simp
     try simp only[Act.put,List.getElem_toArray,List.getElem_cons_succ,List.getElem_cons_zero,List.setIfInBounds_toArray,List.set_cons_zero,List.set_cons_succ]
     refine wpAnyH_take (i:=15) (v:=.bool true) rfl (by decide +kernel) (by decide +kernel) (by decide +kernel) (fun _ _ _ h=>h) (Or.inl ⟨by rfl,fun w' hS=>?_⟩) hS3 ?_
     ·go_simp
     try simp only[Act.put,List.getElem_toArray,List.getElem_cons_succ,List.getElem_cons_zero,List.setIfInBounds_toArray,List.set_cons_zero,List.set_cons_succ]
     refine wpAnyH_take (i:=16) (v:=.pointer (some ⟨g,0,none⟩)) rfl (by decide +kernel) (by decide +kernel) (by decide +kernel) (fun _ _ _ h=>h) (Or.inl ⟨by rfl,fun w' hS=>?_⟩) hS3 ?_
     ·go_simp
     try simp only[Act.put,List.getElem_toArray,List.getElem_cons_succ,List.getElem_cons_zero,List.setIfInBounds_toArray,List.set_cons_zero,List.set_cons_succ]
     refine wpAnyH_take (i:=17) (v:=.pointer (some ⟨g,0,none⟩)) rfl (by decide +kernel) (by decide +kernel) (by decide +kernel) (fun _ _ _ h=>h) (Or.inl ⟨by rfl,fun w' hS=>?_⟩) hS3 ?_
     ·go_simp
     try simp only[Act.put,List.getElem_toArray,List.getElem_cons_succ,List.getElem_cons_zero,List.setIfInBounds_toArray,List.set_cons_zero,List.set_cons_succ]
     refine wpAnyH_take (i:=18) (v:=.pointer (some ⟨g,0,none⟩)) rfl (by decide +kernel) (by decide +kernel) (by decide +kernel) (fun _ _ _ h=>h) (Or.inl ⟨by rfl,fun w' hS=>?_⟩) hS3 ?_
     ·go_simp
     try simp only[Act.put,List.getElem_toArray,List.getElem_cons_succ,List.getElem_cons_zero,List.setIfInBounds_toArray,List.set_cons_zero,List.set_cons_succ]
     refine wpAnyH_take (i:=19) (v:=.slice (some ⟨g1,o1,none⟩) F.length c) rfl (by decide +kernel) (by decide +kernel) (by decide +kernel) (fun _ _ _ h=>h) (Or.inl ⟨by rfl,fun w' hS=>?_⟩) hS3 ?_
     ·have c0:=tc w' hS _ _ y0;go_simp
     try simp only[Act.put,List.getElem_toArray,List.getElem_cons_succ,List.getElem_cons_zero,List.setIfInBounds_toArray,List.set_cons_zero,List.set_cons_succ]
     refine wpAnyH_take (i:=20) (v:=.pointer (some ⟨g,0,none⟩)) rfl (by decide +kernel) (by decide +kernel) (by decide +kernel) (fun _ _ _ h=>h) (Or.inl ⟨by rfl,fun w' hS=>?_⟩) hS3 ?_
     ·go_simp
     try simp only[Act.put,List.getElem_toArray,List.getElem_cons_succ,List.getElem_cons_zero,List.setIfInBounds_toArray,List.set_cons_zero,List.set_cons_succ]
     refine wpAnyH_take (i:=21) (v:=.pointer (some ⟨g,0,none⟩)) rfl (by decide +kernel) (by decide +kernel) (by decide +kernel) (fun _ _ _ h=>h) (Or.inl ⟨by rfl,fun w' hS=>?_⟩) hS3 ?_
     ·go_simp
     try simp only[Act.put,List.getElem_toArray,List.getElem_cons_succ,List.getElem_cons_zero,List.setIfInBounds_toArray,List.set_cons_zero,List.set_cons_succ]
     refine wpAnyH_take (i:=22) (v:=.pointer (some ⟨g,1,none⟩)) rfl (by decide +kernel) (by decide +kernel) (by decide +kernel) (fun _ _ _ h=>h) (Or.inl ⟨by rfl,fun w' hS=>?_⟩) hS3 ?_
     ·go_simp
     try simp only[Act.put,List.getElem_toArray,List.getElem_cons_succ,List.getElem_cons_zero,List.setIfInBounds_toArray,List.set_cons_zero,List.set_cons_succ]
     refine wpAnyH_take (i:=23) (v:=.int .i64 (s.p:Int)) rfl (by decide +kernel) (by decide +kernel) (by decide +kernel) (fun _ _ _ h=>h) (Or.inl ⟨by rfl,fun w' hS=>?_⟩) hS3 ?_
     ·have c0:=tc w' hS _ _ y1;go_simp
     try simp only[Act.put,List.getElem_toArray,List.getElem_cons_succ,List.getElem_cons_zero,List.setIfInBounds_toArray,List.set_cons_zero,List.set_cons_succ]
     refine wpAnyH_take (i:=24) (v:=.pointer (some ⟨g1,o1+s.p*4,none⟩)) rfl (by decide +kernel) (by decide +kernel) (by decide +kernel) (fun _ _ _ h=>h) (Or.inl ⟨by rfl,fun w' hS=>?_⟩) hS3 ?_
     ·go_simp
     try simp only[Act.put,List.getElem_toArray,List.getElem_cons_succ,List.getElem_cons_zero,List.setIfInBounds_toArray,List.set_cons_zero,List.set_cons_succ]
     refine wpAnyH_take (i:=25) (v:=.pointer (some ⟨g1,o1+s.p*4+1,none⟩)) rfl (by decide +kernel) (by decide +kernel) (by decide +kernel) (fun _ _ _ h=>h) (Or.inl ⟨by rfl,fun w' hS=>?_⟩) hS3 ?_
     ·go_simp
     try simp only[Act.put,List.getElem_toArray,List.getElem_cons_succ,List.getElem_cons_zero,List.setIfInBounds_toArray,List.set_cons_zero,List.set_cons_succ]
     refine wpAnyH_take (i:=26) (v:=.string ⟨x.tx.toArray⟩) rfl (by decide +kernel) (by decide +kernel) (by decide +kernel) (fun _ _ _ h=>h) (Or.inl ⟨by rfl,fun w' hS=>?_⟩) hS3 ?_
     ·have c0:=tc w' hS _ _ z1;go_simp
     try simp only[Act.put,List.getElem_toArray,List.getElem_cons_succ,List.getElem_cons_zero,List.setIfInBounds_toArray,List.set_cons_zero,List.set_cons_succ]
     refine wpAnyH_all (rs:=[27]) (by decide +kernel) (by simp) (allH1 rfl (by rfl) (fun K2 hK2=>?_) (allH0 (S:=S0)))
     go_simp
     go_at_call 112
     refine(HN.out _).mono ?_
     rintro e w3 ⟨rfl,rfl⟩
     have hS4:S0 w3:=by rw[hS0];exact H2.out
     refine hK2 _ _ hS4 ?_
     clear hK2 K2
     try simp only[Act.put,List.getElem_toArray,List.getElem_cons_succ,List.getElem_cons_zero,List.setIfInBounds_toArray,List.set_cons_zero,List.set_cons_succ]
     refine wpAnyH_take (i:=28) (v:=.bool nb) rfl (by decide +kernel) (by decide +kernel) (by decide +kernel) (fun _ _ _ h=>h) (Or.inl ⟨by rfl,fun w' hS=>?_⟩) hS4 ?_
     ·go_simp
     try simp only[Act.put,List.getElem_toArray,List.getElem_cons_succ,List.getElem_cons_zero,List.setIfInBounds_toArray,List.set_cons_zero,List.set_cons_succ]
     refine wpAnyH_take (i:=29) (v:=.bool nb) rfl (by decide +kernel) (by decide +kernel) (by decide +kernel) (fun _ _ _ h=>h) (Or.inl ⟨by rfl,fun w' hS=>?_⟩) hS4 ?_
     ·go_simp
     try simp only[Act.put,List.getElem_toArray,List.getElem_cons_succ,List.getElem_cons_zero,List.setIfInBounds_toArray,List.set_cons_zero,List.set_cons_succ]
     refine wpAnyH_done (by decide +kernel) ?_ _
     go_wp2_with fail
     go_ret
     exact⟨by rw[show R=nb from HR.out];rfl,H2.out⟩
    ·rw[decide_eq_false hd] at HR
     have hd2:¬(s.deep:Int)<200:=by omega
     clear hd
     refine wpAnyH_take (i:=13) (v:=.bool false) rfl (by decide +kernel) (by decide +kernel) (by decide +kernel) (fun _ _ _ h=>h) (Or.inl ⟨by rfl,fun w' hS=>?_⟩) hS3 ?_
     ·go_simp
     try simp only[Act.put,List.getElem_toArray,List.getElem_cons_succ,List.getElem_cons_zero,List.setIfInBounds_toArray,List.set_cons_zero,List.set_cons_succ]
     refine wpAnyH_take (i:=14) (v:=.bool false) rfl (by decide +kernel) (by decide +kernel) (by decide +kernel) (fun _ _ _ h=>h) (Or.inl ⟨by rfl,fun w' hS=>?_⟩) hS3 ?_
     ·go_simp
     try simp only[Act.put,List.getElem_toArray,List.getElem_cons_succ,List.getElem_cons_zero,List.setIfInBounds_toArray,List.set_cons_zero,List.set_cons_succ]
     refine wpAnyH_take (i:=15) (v:=.bool false) rfl (by decide +kernel) (by decide +kernel) (by decide +kernel) (fun _ _ _ h=>h) (Or.inl ⟨by rfl,fun w' hS=>?_⟩) hS3 ?_
     ·go_simp
     try simp only[Act.put,List.getElem_toArray,List.getElem_cons_succ,List.getElem_cons_zero,List.setIfInBounds_toArray,List.set_cons_zero,List.set_cons_succ]
     refine wpAnyH_take (i:=16) (v:=undef) rfl (by decide +kernel) (by decide +kernel) (by decide +kernel) (fun _ _ _ h=>h) (Or.inr ⟨by rfl,rfl⟩) hS3 ?_
     try simp only[Act.put,List.getElem_toArray,List.getElem_cons_succ,List.getElem_cons_zero,List.setIfInBounds_toArray,List.set_cons_zero,List.set_cons_succ]
     refine wpAnyH_take (i:=17) (v:=undef) rfl (by decide +kernel) (by decide +kernel) (by decide +kernel) (fun _ _ _ h=>h) (Or.inr ⟨by rfl,rfl⟩) hS3 ?_
     try simp only[Act.put,List.getElem_toArray,List.getElem_cons_succ,List.getElem_cons_zero,List.setIfInBounds_toArray,List.set_cons_zero,List.set_cons_succ]
     refine wpAnyH_take (i:=18) (v:=undef) rfl (by decide +kernel) (by decide +kernel) (by decide +kernel) (fun _ _ _ h=>h) (Or.inr ⟨by rfl,rfl⟩) hS3 ?_
     try simp only[Act.put,List.getElem_toArray,List.getElem_cons_succ,List.getElem_cons_zero,List.setIfInBounds_toArray,List.set_cons_zero,List.set_cons_succ]
     refine wpAnyH_take (i:=19) (v:=undef) rfl (by decide +kernel) (by decide +kernel) (by decide +kernel) (fun _ _ _ h=>h) (Or.inr ⟨by rfl,rfl⟩) hS3 ?_
     try simp only[Act.put,List.getElem_toArray,List.getElem_cons_succ,List.getElem_cons_zero,List.setIfInBounds_toArray,List.set_cons_zero,List.set_cons_succ]
     refine wpAnyH_take (i:=20) (v:=undef) rfl (by decide +kernel) (by decide +kernel) (by decide +kernel) (fun _ _ _ h=>h) (Or.inr ⟨by rfl,rfl⟩) hS3 ?_
     try simp only[Act.put,List.getElem_toArray,List.getElem_cons_succ,List.getElem_cons_zero,List.setIfInBounds_toArray,List.set_cons_zero,List.set_cons_succ]
     refine wpAnyH_take (i:=21) (v:=undef) rfl (by decide +kernel) (by decide +kernel) (by decide +kernel) (fun _ _ _ h=>h) (Or.inr ⟨by rfl,rfl⟩) hS3 ?_
     try simp only[Act.put,List.getElem_toArray,List.getElem_cons_succ,List.getElem_cons_zero,List.setIfInBounds_toArray,List.set_cons_zero,List.set_cons_succ]
     refine wpAnyH_take (i:=22) (v:=undef) rfl (by decide +kernel) (by decide +kernel) (by decide +kernel) (fun _ _ _ h=>h) (Or.inr ⟨by rfl,rfl⟩) hS3 ?_
     try simp only[Act.put,List.getElem_toArray,List.getElem_cons_succ,List.getElem_cons_zero,List.setIfInBounds_toArray,List.set_cons_zero,List.set_cons_succ]
     refine wpAnyH_take (i:=23) (v:=undef) rfl (by decide +kernel) (by decide +kernel) (by decide +kernel) (fun _ _ _ h=>h) (Or.inr ⟨by rfl,rfl⟩) hS3 ?_
     try simp only[Act.put,List.getElem_toArray,List.getElem_cons_succ,List.getElem_cons_zero,List.setIfInBounds_toArray,List.set_cons_zero,List.set_cons_succ]
     refine wpAnyH_take (i:=24) (v:=undef) rfl (by decide +kernel) (by decide +kernel) (by decide +kernel) (fun _ _ _ h=>h) (Or.inr ⟨by rfl,rfl⟩) hS3 ?_
     try simp only[Act.put,List.getElem_toArray,List.getElem_cons_succ,List.getElem_cons_zero,List.setIfInBounds_toArray,List.set_cons_zero,List.set_cons_succ]
     refine wpAnyH_take (i:=25) (v:=undef) rfl (by decide +kernel) (by decide +kernel) (by decide +kernel) (fun _ _ _ h=>h) (Or.inr ⟨by rfl,rfl⟩) hS3 ?_
     try simp only[Act.put,List.getElem_toArray,List.getElem_cons_succ,List.getElem_cons_zero,List.setIfInBounds_toArray,List.set_cons_zero,List.set_cons_succ]
     refine wpAnyH_take (i:=26) (v:=undef) rfl (by decide +kernel) (by decide +kernel) (by decide +kernel) (fun _ _ _ h=>h) (Or.inr ⟨by rfl,rfl⟩) hS3 ?_
     try simp only[Act.put,List.getElem_toArray,List.getElem_cons_succ,List.getElem_cons_zero,List.setIfInBounds_toArray,List.set_cons_zero,List.set_cons_succ]
     refine wpAnyH_take (i:=27) (v:=undef) rfl (by decide +kernel) (by decide +kernel) (by decide +kernel) (fun _ _ _ h=>h) (Or.inr ⟨by rfl,rfl⟩) hS3 ?_
     try simp only[Act.put,List.getElem_toArray,List.getElem_cons_succ,List.getElem_cons_zero,List.setIfInBounds_toArray,List.set_cons_zero,List.set_cons_succ]
     refine wpAnyH_take (i:=28) (v:=.bool false) rfl (by decide +kernel) (by decide +kernel) (by decide +kernel) (fun _ _ _ h=>h) (Or.inl ⟨by rfl,fun w' hS=>?_⟩) hS3 ?_
     ·go_simp
     try simp only[Act.put,List.getElem_toArray,List.getElem_cons_succ,List.getElem_cons_zero,List.setIfInBounds_toArray,List.set_cons_zero,List.set_cons_succ]
     refine wpAnyH_take (i:=29) (v:=.bool false) rfl (by decide +kernel) (by decide +kernel) (by decide +kernel) (fun _ _ _ h=>h) (Or.inl ⟨by rfl,fun w' hS=>?_⟩) hS3 ?_
     ·go_simp
     try simp only[Act.put,List.getElem_toArray,List.getElem_cons_succ,List.getElem_cons_zero,List.setIfInBounds_toArray,List.set_cons_zero,List.set_cons_succ]
     refine wpAnyH_done (by decide +kernel) ?_ _
     go_wp2_with fail
     go_ret
     exact⟨by rw[show R=false from HR.out];rfl,H2.out⟩
end Go.Proofs.YtlbfdbinaekjoaaGreatDoor
namespace Go.Proofs.YtlbfdbinaekjoaaGreatDoor
open Go.RowKit
set_option linter.unusedVariables false
set_option linter.unusedSimpArgs false
set_option maxRecDepth 100000
structure Bd (F:List Lf) (c:Nat) (s:Ps):Prop where
  p:s.p≤F.length
  l:s.l.length≤46*s.p+c
  d:s.deep≤200
theorem Bd.mono {F:List Lf} {c c':Nat} {s:Ps} (h:Bd F c s) (hc:c≤c'):Bd F c' s:=⟨h.p,by have:=h.l;omega,h.d⟩
theorem Bd.gd {F:List Lf} {c b:Nat} {s t:Ps} (h:Bd F c s) (k:Gd F.length b s t):Bd F (c+b) t:=⟨k.N,by have:=h.l;have:=k.b;have:=k.p;omega,by rw[k.dp];exact h.d⟩
theorem Bd.next {F:List Lf} {c:Nat} {s:Ps} (h:Bd F c s) (hp:s.p<F.length) (hc:c≤46):Bd F 0 (nextP s):=⟨hp,by have:=h.l;show s.l.length≤46*(s.p+1)+0;omega,h.d⟩
theorem Bd.inn {F:List Lf} {c:Nat} {s:Ps} (h:Bd F c s) (k:Nat):Bd F (c+1) (inN k s):=⟨h.p,by show (s.l++[_]).length≤46*s.p+(c+1);rw[List.length_append];have:=h.l;show s.l.length+1≤_;omega,h.d⟩
theorem Bd.l5 {F:List Lf} {c:Nat} {s:Ps} (h:Bd F c s) (hF:FB F) (hc:c≤100):s.l.length≤50000:=by have:=h.l;have:=h.p;have:=hF.n;omega
theorem take_y {F:List Lf} {cs:List UInt8} {s:Ps} (h:comes F cs s=true):takeP F cs s=nextP s:=by unfold takeP;rw[if_pos h]
theorem take_n {F:List Lf} {cs:List UInt8} {s:Ps} (h:comes F cs s=false):takeP F cs s=s:=by unfold takeP;rw[if_neg (by rw[h];decide)]
theorem node_v {g:Nat} {fv:Value} {F:List Lf} {s t:Ps} {W:World} (k fn:Nat) (h:Mk g fv F s W) (hl:s.l.length≤50000) (hk:k≤18) (eg:∀args w,(callFunc fn args).run Tryz.prog w=.ok (.enter fn args) w)
    (hf:∀W1,Mz g fv F W (inN k s) W1→Calls Tryz.prog fn #[.pointer (some ⟨g,0,none⟩)] W1 fun e w'=>e=.returned (.tuple #[])∧Mz g fv F W1 t w') (ht:s.l.length<t.l.length) (hp:t.p≤100000) :
    Calls Tryz.prog 14 #[.pointer (some ⟨g,0,none⟩),.int .i64 (k:Int),.func (.func fn) #[.pointer (some ⟨g,0,none⟩)] #[]] W fun e w'=>e=.returned (.tuple #[])∧Mz g fv F W {t with up:=s.up,l:=ndTo t.l s.l.length t.p} w':=
  node_m k fn #[.pointer (some ⟨g,0,none⟩)] #[] h hl hk eg hf ht hp
theorem missing_m {g:Nat} {fv:Value} {F:List Lf} {s:Ps} {W:World} (hF:FB F) (h:Mk g fv F s W) (hB:Bd F 100 s) :
    Calls Tryz.prog 67 #[.pointer (some ⟨g,0,none⟩)] W fun e w'=>e=.returned (.tuple #[])∧Mz g fv F W (missP s) w':=by
  have hp:=hB.p
  have hn:=hF.n
  have c1:∀W1,Mz g fv F W (inN 18 s) W1→Calls Tryz.prog 84 (#[]++#[]) W1 fun e w'=>e=.returned (.tuple #[])∧Mz g fv F W1 (inN 18 s) w':=fun W1 h1=>by
    show Calls _ _ #[] _ _
    go_enter Tryz.func84,Tryz.ntmps84
    go_wp2
    first|go_end0|refine bodyPost_ret (results_none rfl _ _ _) rfl ?_
    exact⟨rfl,Mz.start h1.m⟩
  have c2:=node_m 18 _ #[] #[] h (hB.l5 hF (by omega)) (by omega) (enters_of Tryz.func84 (by kernel_rfl) rfl) c1 (by show s.l.length<(s.l++[_]).length;simp) (by show s.p≤100000;omega)
  have HC:=Lib.hid c2
  clear c1 c2
  go_enter Tryz.func67,Tryz.ntmps67
  go_wp2_with (
    (go_at_call 14
     refine HC.out.mono ?_
     rintro e w1 ⟨rfl,hz⟩
     have H1:=Lib.hid hz
     clear hz))
  first|go_end0|refine bodyPost_ret (results_none rfl _ _ _) rfl ?_
  exact⟨rfl,H1.out⟩
theorem Mz.box {g bx:Nat} {fv:Value} {F:List Lf} {s:Ps} {W w':World} {cs:Array Value} {ty:TypeId} (h:Mz g fv F W s w') (hb:Bk W bx ty cs) (ht:ty∉[42,38]):Bk w' bx ty cs:=hb.kt h.f.kt ht
set_option maxHeartbeats 1000000 in
theorem leaf1_m {g bx:Nat} {fv:Value} {F:List Lf} {s:Ps} {W:World} (hF:FB F) (h:Mk g fv F s W) (hs:s.p≤F.length) (hb:Bk W bx 40 #[.pointer (some ⟨g,0,none⟩)]) :
    Calls Tryz.prog 53 #[.pointer (some ⟨bx,0,none⟩)] W fun e w'=>e=.returned (.tuple #[])∧Mz g fv F W (nextP s) w':=by
  have hn:=hF.n
  have v1:IntKind.i64.wrap ((s.p:Int)+1)=((s.p+1:Nat):Int):=by rw[IntWalk.i64_in _ (by omega)];omega
  obtain⟨c0,c1,c3,c4,f1,f2,f3,f4⟩:=h.cells
  have b0:=hb.cell 0
  have HC:=Lib.hid h
  clear h hb
  go_enter Tryz.func53,Tryz.ntmps53
  go_wp2
  first|go_end0|refine bodyPost_ret (results_none rfl _ _ _) rfl ?_
  exact⟨rfl,(Mz.start HC.out).setP (s.p+1)⟩
set_option maxHeartbeats 1000000 in
theorem leaf_m {g:Nat} {fv:Value} {F:List Lf} {s:Ps} {W:World} (k:Nat) (hk:k≤18) (hF:FB F) (h:Mk g fv F s W) (hB:Bd F 100 s) (hs:s.p<F.length) :
    Calls Tryz.prog 33 #[.pointer (some ⟨g,0,none⟩),.int .i64 (k:Int)] W fun e w'=>e=.returned (.tuple #[])∧Mz g fv F W (leafP k s) w':=by
  have hn:=hF.n
  have c2:∀W0,Mk g fv F s W0→∀bx,Bk W0 bx 40 #[.pointer (some ⟨g,0,none⟩)]→Calls Tryz.prog 14 #[.pointer (some ⟨g,0,none⟩),.int .i64 (k:Int),.func (.func 53) #[] #[.pointer (some ⟨bx,0,none⟩)]] W0 fun e w'=>e=.returned (.tuple #[])∧Mz g fv F W0 (leafP k s) w':=fun W0 h0 bx hb=>
    node_m (t:=nextP (inN k s)) k _ #[] #[.pointer (some ⟨bx,0,none⟩)] h0 (hB.l5 hF (by omega)) hk (enters_of Tryz.func53 (by kernel_rfl) rfl)
      (fun W1 h1=>leaf1_m hF h1.m hB.p (h1.box hb (by decide))) (by show s.l.length<(s.l++[_]).length;simp) (by show s.p+1≤100000;omega)
  have HC:=Lib.hid (And.intro c2 h)
  clear c2 h
  go_enter Tryz.func33,Tryz.ntmps33
  go_wp2_with (
    (go_at_call 14
     have hba:Below W.heap.size W (W.alloc (.cells #[.pointer (some ⟨g,0,none⟩)] 40)):=(Below.refl _ W).alloc (Nat.le_refl _) _
     refine(HC.out.1 _ (HC.out.2.next hba).1 _ (Bk.new W _ _)).mono ?_
     rintro e w1 ⟨rfl,hz⟩
     have H1:=Lib.hid (((Mz.start HC.out.2).next hba).then hz)
     clear hz hba))
  first|go_end0|refine bodyPost_ret (results_none rfl _ _ _) rfl ?_
  exact⟨rfl,H1.out⟩
set_option maxHeartbeats 1000000 in
theorem want_m {g:Nat} {fv:Value} {F:List Lf} {s:Ps} {W:World} (hF:FB F) (h:Mk g fv F s W) (hB:Bd F 100 s) (c:UInt8) (hc:c≠0) :
    Calls Tryz.prog 114 #[.pointer (some ⟨g,0,none⟩),.string ⟨#[c]⟩] W fun e w'=>e=.returned (.tuple #[])∧Mz g fv F W (wantP F c s) w':=by
  have hc0:[c].contains 0=false:=by simp;exact fun e=>hc e.symm
  have c1:=take_m hF h hB.p [c] hc0
  have c2:=fun W1 (h1:Mk g fv F s W1)=>missing_m hF h1 hB
  unfold wantP
  cases hb:comes F [c] s
  ·rw[hb,take_n hb] at c1
   have HC:=Lib.hid (And.intro c1 c2)
   clear c1 c2 hb h
   go_enter Tryz.func114,Tryz.ntmps114
   go_wp2_with (first
     | (go_at_call 30
        with_reducible refine HC.out.1.mono ?_
        rintro e w1 ⟨rfl,hz⟩
        have H1:=Lib.hid hz
        clear hz)
     | (go_at_call 67
        with_reducible refine(HC.out.2 _ H1.out.m).mono ?_
        rintro e w2 ⟨rfl,hz⟩
        have H2:=Lib.hid (H1.out.then hz)
        clear hz))
   first|go_end0|refine bodyPost_ret (results_none rfl _ _ _) rfl ?_
   exact⟨rfl,H2.out⟩
  ·rw[hb,take_y hb] at c1
   have HC:=Lib.hid c1
   clear c1 c2 hb h
   go_enter Tryz.func114,Tryz.ntmps114
   go_wp2_with (
     (go_at_call 30
      with_reducible refine HC.out.mono ?_
      rintro e w1 ⟨rfl,hz⟩
      have H1:=Lib.hid hz
      clear hz))
   first|go_end0|refine bodyPost_ret (results_none rfl _ _ _) rfl ?_
   exact⟨rfl,H1.out⟩
set_option maxHeartbeats 1000000 in
theorem mword_m {g:Nat} {fv:Value} {F:List Lf} {s:Ps} {W:World} (hF:FB F) (h:Mk g fv F s W) (hB:Bd F 100 s) :
    Calls Tryz.prog 113 #[.pointer (some ⟨g,0,none⟩)] W fun e w'=>e=.returned (.tuple #[])∧Mz g fv F W (wordP F s) w':=by
  have c1:=isWord_m hF h hB.p
  have c2:=fun W1 (h1:Mk g fv F s W1)=>missing_m hF h1 hB
  have c3:=fun (hs:s.p<F.length) W1 (h1:Mk g fv F s W1)=>leaf_m 7 (by omega) hF h1 hB hs
  unfold wordP
  cases hb:isW F s.p
  ·rw[hb] at c1
   have HC:=Lib.hid (And.intro c1 (And.intro c2 h))
   clear c1 c2 c3 hb h
   go_enter Tryz.func113,Tryz.ntmps113
   go_wp2_with (first
     | (go_at_call 115
        with_reducible refine HC.out.1.mono ?_
        rintro e w1 ⟨rfl,hz⟩
        have H1:=Lib.hid ((Mz.start HC.out.2.2).next hz)
        clear hz)
     | (go_at_call 67
        with_reducible refine(HC.out.2.1 _ H1.out.m).mono ?_
        rintro e w2 ⟨rfl,hz⟩
        have H2:=Lib.hid (H1.out.then hz)
        clear hz))
   first|go_end0|refine bodyPost_ret (results_none rfl _ _ _) rfl ?_
   exact⟨rfl,H2.out⟩
  ·rw[hb] at c1
   have c4:=c3 (isW_lt hb)
   have HC:=Lib.hid (And.intro c1 (And.intro c4 h))
   clear c1 c2 c3 c4 hb h
   go_enter Tryz.func113,Tryz.ntmps113
   go_wp2_with (first
     | (go_at_call 115
        with_reducible refine HC.out.1.mono ?_
        rintro e w1 ⟨rfl,hz⟩
        have H1:=Lib.hid ((Mz.start HC.out.2.2).next hz)
        clear hz)
     | (go_at_call 33
        refine(HC.out.2.1 _ H1.out.m).mono ?_
        rintro e w2 ⟨rfl,hz⟩
        have H2:=Lib.hid (H1.out.then hz)
        clear hz))
   first|go_end0|refine bodyPost_ret (results_none rfl _ _ _) rfl ?_
   exact⟨rfl,H2.out⟩
end Go.Proofs.YtlbfdbinaekjoaaGreatDoor
namespace Go.Proofs.YtlbfdbinaekjoaaGreatDoor
open Go.RowKit
set_option linter.unusedVariables false
set_option linter.unusedSimpArgs false
set_option maxRecDepth 100000
def pOf (g:Nat) (w:World):Nat:=match w.cell? ⟨g,1,none⟩ with|some (.int _ p)=>p.toNat|_=>0
theorem Mk.pOf {g:Nat} {fv:Value} {F:List Lf} {s:Ps} {W:World} (h:Mk g fv F s W):Go.Proofs.YtlbfdbinaekjoaaGreatDoor.pOf g W=s.p:=by
  unfold Go.Proofs.YtlbfdbinaekjoaaGreatDoor.pOf
  rw[h.cells.2.1]
  exact Int.toNat_natCast _
set_option maxHeartbeats 1000000 in
theorem lines_m {g:Nat} {fv:Value} {F:List Lf} {s:Ps} {W:World} (hF:FB F) (h:Mk g fv F s W) (hs:s.p≤F.length) :
    Calls Tryz.prog 52 #[.pointer (some ⟨g,0,none⟩)] W fun e w'=>e=.returned (.bool (comes F [110] s))∧Mz g fv F W (linesP F s) w':=by
  have ct:=fun (u:Ps) (hu:u.p≤F.length) W1 (h1:Mk g fv F u W1)=>take_m hF h1 hu [110] (by decide)
  have hl:=fun (u:Ps) (hu:u.p≤F.length)=>LC.eq (lines_c (F:=F)) u hu
  have hlt:=fun (u:Ps) (hb:comes F [110] u=true)=>comes_lt hb (by decide)
  have HC:=Lib.hid (And.intro ct (And.intro hl (And.intro hlt h)))
  have c1:=ct s hs W h
  obtain⟨b,hb⟩:∃b,b=comes F [110] s:=⟨_,rfl⟩
  rw[←hb] at c1 ⊢
  have H1':=Lib.hid c1
  have h0:(takeP F [110] s).p≤F.length∧linesP F (takeP F [110] s)=linesP F s:=by
    cases hc:comes F [110] s
    ·rw[take_n hc];exact⟨hs,rfl⟩
    ·rw[take_y hc]
     refine⟨hlt s hc,?_⟩
     have:=hl s hs
     simp only[hc,if_true] at this
     exact this.symm
  generalize takeP F [110] s=u0 at *
  have H0:=Lib.hid h0
  clear h0 c1 hb ct hl hlt h
  go_enter Tryz.func52,Tryz.ntmps52
  go_wp2_with (
    (go_at_call 30
     with_reducible refine H1'.out.mono ?_
     rintro e w1 ⟨rfl,hz⟩
     have H1:=Lib.hid hz
     clear hz))
  go_loopw [] (fun wr=>∃u:Ps,u.p≤F.length∧linesP F u=linesP F s∧Mz g fv F W u wr) (fun wr=>F.length-pOf g wr)
  case atStart=>exact⟨u0,H0.out.1,H0.out.2,H1.out⟩
  case round=>
    obtain⟨u,hu,hlu,hz⟩:=hrel
    have e1:=hz.m.pOf
    have HU:=Lib.hid (And.intro hlu (And.intro hz e1))
    have ct:=HC.out.1 u hu wr hz.m
    cases hb:comes F [110] u
    ·rw[hb,take_n hb] at ct
     have hl:=HC.out.2.1 u hu
     simp only[hb,if_false,Bool.false_eq_true] at hl
     have HT:=Lib.hid (And.intro ct hl)
     clear ct hl hlu hz e1 hb
     go_wp2_with (
       (go_at_call 30
        with_reducible refine HT.out.1.mono ?_
        rintro e w2 ⟨rfl,hz⟩
        have H2:=Lib.hid (HU.out.2.1.then hz)
        clear hz))
     go_ret
     refine⟨rfl,?_⟩
     rw[←HU.out.1]
     rw[show linesP F u=u from HT.out.2]
     exact H2.out
    ·rw[hb,take_y hb] at ct
     have hl:=HC.out.2.1 u hu
     simp only[hb,if_true] at hl
     have hlt:=HC.out.2.2.1 u hb
     have HT:=Lib.hid (And.intro ct hl)
     clear ct hl hlu hz e1 hb
     go_wp2_with (
       (go_at_call 30
        with_reducible refine HT.out.1.mono ?_
        rintro e w2 ⟨rfl,hz⟩
        have H2:=Lib.hid (HU.out.2.1.then hz)
        clear hz))
     refine⟨⟨nextP u,hlt,?_,H2.out⟩,?_⟩
     ·rw[←HU.out.1];exact HT.out.2.symm
     ·rw[H2.out.m.pOf,HU.out.2.2]
      show F.length-(u.p+1)<F.length-u.p
      omega
set_option maxHeartbeats 1000000 in
theorem nested_m {g:Nat} {fv:Value} {F:List Lf} {s t:Ps} {W:World} (k fn:Nat) (pre cap:Array Value) (h:Mk g fv F s W) (hl:s.l.length≤50000) (hk:k≤18) (hd:s.deep≤200)
    (eg:∀args w,(callFunc fn args).run Tryz.prog w=.ok (.enter fn args) w)
    (hf:∀W1,Mz g fv F W (inN k {s with deep:=s.deep+1}) W1→Calls Tryz.prog fn (pre++cap) W1 fun e w'=>e=.returned (.tuple #[])∧Mz g fv F W1 t w') (ht:s.l.length<t.l.length) (hp:t.p≤100000) (htd:t.deep=s.deep+1) :
    Calls Tryz.prog 87 #[.pointer (some ⟨g,0,none⟩),.int .i64 (k:Int),.func (.func fn) pre cap] W fun e w'=>e=.returned (.tuple #[])∧Mz g fv F W {t with up:=s.up,l:=ndTo t.l s.l.length t.p,deep:=t.deep-1} w':=by
  have c1:=fun W1 (h1:Mz g fv F W {s with deep:=s.deep+1} W1)=>node_m (t:=t) k fn pre cap h1.m hl hk eg (fun W2 h2=>hf W2 (h1.then h2)) ht hp
  have v1:IntKind.i64.wrap ((s.deep:Int)+1)=((s.deep+1:Nat):Int):=by rw[IntWalk.i64_in _ (by omega)];omega
  have v2:IntKind.i64.wrap ((t.deep:Int)-1)=((t.deep-1:Nat):Int):=by rw[IntWalk.i64_in _ (by omega)];omega
  obtain⟨c0,ca,cb,c4,f1,f2,f3,f4⟩:=h.cells
  have HC:=Lib.hid (And.intro c1 h)
  clear c1 hf h htd
  go_enter Tryz.func87,Tryz.ntmps87
  go_wp2_with (
    (go_at_call 14
     have hz0:=(Mz.start HC.out.2).setDeep (s.deep+1)
     refine(HC.out.1 _ hz0).mono ?_
     rintro e w1 ⟨rfl,hz⟩
     have H1:=Lib.hid (hz0.then hz)
     obtain⟨c0,ca,cb,c4,f1,f2,f3,f4⟩:=hz.m.cells
     replace c4:w1.cell? ⟨g,4,none⟩=some (.int .i64 (t.deep:Int)):=c4
     clear hz hz0))
  first|go_end0|refine bodyPost_ret (results_none rfl _ _ _) rfl ?_
  exact⟨rfl,H1.out.setDeep (t.deep-1)⟩
end Go.Proofs.YtlbfdbinaekjoaaGreatDoor
namespace Go.Proofs.YtlbfdbinaekjoaaGreatDoor
open Go.RowKit
set_option linter.unusedVariables false
set_option linter.unusedSimpArgs false
set_option maxRecDepth 100000
theorem take_my {g:Nat} {fv:Value} {F:List Lf} {s:Ps} {W:World} (hF:FB F) (h:Mk g fv F s W) (hs:s.p≤F.length) (cs:List UInt8) (hcs:cs.contains 0=false) (hb:comes F cs s=true) :
    Calls Tryz.prog 30 #[.pointer (some ⟨g,0,none⟩),.string ⟨cs.toArray⟩] W fun e w'=>e=.returned (.bool true)∧Mz g fv F W (nextP s) w':=by
  have c:=take_m hF h hs cs hcs
  rw[hb,take_y hb] at c
  exact c
theorem take_mn {g:Nat} {fv:Value} {F:List Lf} {s:Ps} {W:World} (hF:FB F) (h:Mk g fv F s W) (hs:s.p≤F.length) (cs:List UInt8) (hcs:cs.contains 0=false) (hb:comes F cs s=false) :
    Calls Tryz.prog 30 #[.pointer (some ⟨g,0,none⟩),.string ⟨cs.toArray⟩] W fun e w'=>e=.returned (.bool false)∧Mz g fv F W (s) w':=by
  have c:=take_m hF h hs cs hcs
  rw[hb,take_n hb] at c
  exact c
theorem comes_my {g:Nat} {fv:Value} {F:List Lf} {s:Ps} {W:World} (hF:FB F) (h:Mk g fv F s W) (hs:s.p≤F.length) (cs:List UInt8) (hcs:cs.contains 0=false) (hb:comes F cs s=true) :
    Calls Tryz.prog 48 #[.pointer (some ⟨g,0,none⟩),.string ⟨cs.toArray⟩] W fun e w'=>e=.returned (.bool true)∧Mz g fv F W (s) w':=by
  have c:=comes_m hF h hs cs hcs
  rw[hb] at c
  exact c.mono fun e w' ⟨h1,h2⟩=>⟨h1,(Mz.start h).next h2⟩
theorem comes_mn {g:Nat} {fv:Value} {F:List Lf} {s:Ps} {W:World} (hF:FB F) (h:Mk g fv F s W) (hs:s.p≤F.length) (cs:List UInt8) (hcs:cs.contains 0=false) (hb:comes F cs s=false) :
    Calls Tryz.prog 48 #[.pointer (some ⟨g,0,none⟩),.string ⟨cs.toArray⟩] W fun e w'=>e=.returned (.bool false)∧Mz g fv F W (s) w':=by
  have c:=comes_m hF h hs cs hcs
  rw[hb] at c
  exact c.mono fun e w' ⟨h1,h2⟩=>⟨h1,(Mz.start h).next h2⟩
theorem redirects_my {g:Nat} {fv:Value} {F:List Lf} {s:Ps} {W:World} (hF:FB F) (h:Mk g fv F s W) (hs:s.p≤F.length) (hb:redirB F s=true) :
    Calls Tryz.prog 58 #[.pointer (some ⟨g,0,none⟩)] W fun e w'=>e=.returned (.bool true)∧Mz g fv F W (s) w':=by
  have c:=redirects_m hF h hs
  rw[hb] at c
  exact c.mono fun e w' ⟨h1,h2⟩=>⟨h1,(Mz.start h).next h2⟩
theorem redirects_mn {g:Nat} {fv:Value} {F:List Lf} {s:Ps} {W:World} (hF:FB F) (h:Mk g fv F s W) (hs:s.p≤F.length) (hb:redirB F s=false) :
    Calls Tryz.prog 58 #[.pointer (some ⟨g,0,none⟩)] W fun e w'=>e=.returned (.bool false)∧Mz g fv F W (s) w':=by
  have c:=redirects_m hF h hs
  rw[hb] at c
  exact c.mono fun e w' ⟨h1,h2⟩=>⟨h1,(Mz.start h).next h2⟩
theorem compounds_my {g:Nat} {fv:Value} {F:List Lf} {s:Ps} {W:World} (hF:FB F) (h:Mk g fv F s W) (hs:s.p≤F.length) (hb:compB F s=true) :
    Calls Tryz.prog 59 #[.pointer (some ⟨g,0,none⟩)] W fun e w'=>e=.returned (.bool true)∧Mz g fv F W (s) w':=by
  have c:=compounds_m hF h hs
  rw[hb] at c
  exact c.mono fun e w' ⟨h1,h2⟩=>⟨h1,(Mz.start h).next h2⟩
theorem compounds_mn {g:Nat} {fv:Value} {F:List Lf} {s:Ps} {W:World} (hF:FB F) (h:Mk g fv F s W) (hs:s.p≤F.length) (hb:compB F s=false) :
    Calls Tryz.prog 59 #[.pointer (some ⟨g,0,none⟩)] W fun e w'=>e=.returned (.bool false)∧Mz g fv F W (s) w':=by
  have c:=compounds_m hF h hs
  rw[hb] at c
  exact c.mono fun e w' ⟨h1,h2⟩=>⟨h1,(Mz.start h).next h2⟩
theorem commands_my {g:Nat} {fv:Value} {F:List Lf} {s:Ps} {W:World} (hF:FB F) (h:Mk g fv F s W) (hs:s.p≤F.length) (hb:cmdB F s=true) :
    Calls Tryz.prog 50 #[.pointer (some ⟨g,0,none⟩)] W fun e w'=>e=.returned (.bool true)∧Mz g fv F W (s) w':=by
  have c:=commands_m hF h hs
  rw[hb] at c
  exact c.mono fun e w' ⟨h1,h2⟩=>⟨h1,(Mz.start h).next h2⟩
theorem commands_mn {g:Nat} {fv:Value} {F:List Lf} {s:Ps} {W:World} (hF:FB F) (h:Mk g fv F s W) (hs:s.p≤F.length) (hb:cmdB F s=false) :
    Calls Tryz.prog 50 #[.pointer (some ⟨g,0,none⟩)] W fun e w'=>e=.returned (.bool false)∧Mz g fv F W (s) w':=by
  have c:=commands_m hF h hs
  rw[hb] at c
  exact c.mono fun e w' ⟨h1,h2⟩=>⟨h1,(Mz.start h).next h2⟩
theorem pipes_my {g:Nat} {fv:Value} {F:List Lf} {s:Ps} {W:World} (hF:FB F) (h:Mk g fv F s W) (hs:s.p≤F.length) (hb:pipeB F s=true) :
    Calls Tryz.prog 31 #[.pointer (some ⟨g,0,none⟩)] W fun e w'=>e=.returned (.bool true)∧Mz g fv F W (s) w':=by
  have c:=pipes_m hF h hs
  rw[hb] at c
  exact c.mono fun e w' ⟨h1,h2⟩=>⟨h1,(Mz.start h).next h2⟩
theorem pipes_mn {g:Nat} {fv:Value} {F:List Lf} {s:Ps} {W:World} (hF:FB F) (h:Mk g fv F s W) (hs:s.p≤F.length) (hb:pipeB F s=false) :
    Calls Tryz.prog 31 #[.pointer (some ⟨g,0,none⟩)] W fun e w'=>e=.returned (.bool false)∧Mz g fv F W (s) w':=by
  have c:=pipes_m hF h hs
  rw[hb] at c
  exact c.mono fun e w' ⟨h1,h2⟩=>⟨h1,(Mz.start h).next h2⟩
theorem function_my {g:Nat} {fv:Value} {F:List Lf} {s:Ps} {W:World} (hF:FB F) (h:Mk g fv F s W) (hs:s.p≤F.length) (hb:funB F s=true) :
    Calls Tryz.prog 86 #[.pointer (some ⟨g,0,none⟩)] W fun e w'=>e=.returned (.bool true)∧Mz g fv F W (s) w':=by
  have c:=function_m hF h hs
  rw[hb] at c
  exact c.mono fun e w' ⟨h1,h2⟩=>⟨h1,(Mz.start h).next h2⟩
theorem function_mn {g:Nat} {fv:Value} {F:List Lf} {s:Ps} {W:World} (hF:FB F) (h:Mk g fv F s W) (hs:s.p≤F.length) (hb:funB F s=false) :
    Calls Tryz.prog 86 #[.pointer (some ⟨g,0,none⟩)] W fun e w'=>e=.returned (.bool false)∧Mz g fv F W (s) w':=by
  have c:=function_m hF h hs
  rw[hb] at c
  exact c.mono fun e w' ⟨h1,h2⟩=>⟨h1,(Mz.start h).next h2⟩
theorem isWord_my {g:Nat} {fv:Value} {F:List Lf} {s:Ps} {W:World} (hF:FB F) (h:Mk g fv F s W) (hs:s.p≤F.length) (hb:isW F s.p=true) :
    Calls Tryz.prog 115 #[.pointer (some ⟨g,0,none⟩)] W fun e w'=>e=.returned (.bool true)∧Mz g fv F W (s) w':=by
  have c:=isWord_m hF h hs
  rw[hb] at c
  exact c.mono fun e w' ⟨h1,h2⟩=>⟨h1,(Mz.start h).next h2⟩
theorem isWord_mn {g:Nat} {fv:Value} {F:List Lf} {s:Ps} {W:World} (hF:FB F) (h:Mk g fv F s W) (hs:s.p≤F.length) (hb:isW F s.p=false) :
    Calls Tryz.prog 115 #[.pointer (some ⟨g,0,none⟩)] W fun e w'=>e=.returned (.bool false)∧Mz g fv F W (s) w':=by
  have c:=isWord_m hF h hs
  rw[hb] at c
  exact c.mono fun e w' ⟨h1,h2⟩=>⟨h1,(Mz.start h).next h2⟩
theorem lines_my {g:Nat} {fv:Value} {F:List Lf} {s:Ps} {W:World} (hF:FB F) (h:Mk g fv F s W) (hs:s.p≤F.length) (hb:comes F [110] s=true) :
    Calls Tryz.prog 52 #[.pointer (some ⟨g,0,none⟩)] W fun e w'=>e=.returned (.bool true)∧Mz g fv F W (linesP F s) w':=by
  have c:=lines_m hF h hs
  rw[hb] at c
  exact c
theorem lines_mn {g:Nat} {fv:Value} {F:List Lf} {s:Ps} {W:World} (hF:FB F) (h:Mk g fv F s W) (hs:s.p≤F.length) (hb:comes F [110] s=false) :
    Calls Tryz.prog 52 #[.pointer (some ⟨g,0,none⟩)] W fun e w'=>e=.returned (.bool false)∧Mz g fv F W (linesP F s) w':=by
  have c:=lines_m hF h hs
  rw[hb] at c
  exact c
theorem inN_len (k:Nat) (s:Ps):(inN k s).l.length=s.l.length+1:=by show (s.l++[_]).length=_;simp
set_option maxHeartbeats 1000000 in
theorem redirect1_m {g bx:Nat} {fv:Value} {F:List Lf} {s:Ps} {W:World} (hF:FB F) (h:Mk g fv F s W) (hB:Bd F 100 s) (hb:Bk W bx 40 #[.pointer (some ⟨g,0,none⟩)]) :
    Calls Tryz.prog 144 #[.pointer (some ⟨bx,0,none⟩)] W fun e w'=>e=.returned (.tuple #[])∧Mz g fv F W (wordP F (takeP F [60] (takeP F [35] s))) w':=by
  have HBX:=Lib.hid hb
  have hB1:=(hB.gd (gd_take (cs:=[35]) (by decide) hB.p)).mono (Nat.le_refl 100)
  have hB2:=(hB1.gd (gd_take (cs:=[60]) (by decide) hB1.p)).mono (Nat.le_refl 100)
  have HC1:=Lib.hid (fun W1 (h1:Mk g fv F (s) W1)=>take_m hF h1 hB.p [35] (by decide))
  have HC2:=Lib.hid (fun W1 (h1:Mk g fv F (takeP F [35] s) W1)=>take_m hF h1 hB1.p [60] (by decide))
  have HC3:=Lib.hid (fun W1 (h1:Mk g fv F (takeP F [60] (takeP F [35] s)) W1)=>mword_m hF h1 hB2)
  have H0:=Lib.hid (Mz.start h)
  have b0:=HBX.out.cell 0
  clear h hb
  go_enter Tryz.func144,Tryz.ntmps144
  go_wp2_with (first
    | (go_at_call 30
       with_reducible refine(HC1.out _ H0.out.m).mono ?_
       rintro e w1 ⟨rfl,hz⟩
       have H1:=Lib.hid (H0.out.then hz)
       have b0:=(Bk.kt HBX.out H1.out.f.kt (by decide)).cell 0
       clear hz)
    | (go_at_call 30
       with_reducible refine(HC2.out _ H1.out.m).mono ?_
       rintro e w2 ⟨rfl,hz⟩
       have H2:=Lib.hid (H1.out.then hz)
       have b0:=(Bk.kt HBX.out H2.out.f.kt (by decide)).cell 0
       clear hz)
    | (go_at_call 113
       with_reducible refine(HC3.out _ H2.out.m).mono ?_
       rintro e w3 ⟨rfl,hz⟩
       have H3:=Lib.hid (H2.out.then hz)
       have b0:=(Bk.kt HBX.out H3.out.f.kt (by decide)).cell 0
       clear hz)
    | fail)
  first|go_end0|refine bodyPost_ret (results_none rfl _ _ _) rfl ?_
  exact⟨rfl,H3.out⟩
set_option maxHeartbeats 1000000 in
theorem redirect_my {g:Nat} {fv:Value} {F:List Lf} {s:Ps} {W:World} (hF:FB F) (h:Mk g fv F s W) (hB:Bd F 99 s) (hb:redirB F s=true) :
    Calls Tryz.prog 111 #[.pointer (some ⟨g,0,none⟩)] W fun e w'=>e=.returned (.bool true)∧Mz g fv F W (redirP F s) w':=by
  have hn:=hF.n
  have hg:=(gd_redir hb).1
  have hi:=hB.inn 8
  have hx:∀W0,Mk g fv F s W0→∀bx,Bk W0 bx 40 #[.pointer (some ⟨g,0,none⟩)]→Calls Tryz.prog 14 #[.pointer (some ⟨g,0,none⟩),.int .i64 ((8:Nat):Int),.func (.func 144) #[] #[.pointer (some ⟨bx,0,none⟩)]] W0 fun e w'=>e=.returned (.tuple #[])∧Mz g fv F W0 (redirP F s) w':=fun W0 h0 bx hbx=>by
    have hw1:=gd_take (F:=F) (cs:=[35]) (by decide) hi.p
    have hw2:=gd_take (F:=F) (cs:=[60]) (by decide) hw1.N
    have hw3:=gd_word hw2.N
    have hlen:=((hw1.trans hw2).trans hw3).l
    have hpN:=hw3.N
    have hil:(inN 8 s).l.length=s.l.length+1:=inN_len 8 s
    exact node_m (t:=wordP F (takeP F [60] (takeP F [35] (inN 8 s)))) 8 _ #[] #[.pointer (some ⟨bx,0,none⟩)] h0 (hB.l5 hF (by omega)) (by omega) (enters_of Tryz.func144 (by kernel_rfl) rfl)
      (fun W1 h1=>redirect1_m hF h1.m hi (h1.box hbx (by decide))) (by omega) (by omega)
  have HX:=Lib.hid hx
  have HC1:=Lib.hid (fun W1 (h1:Mk g fv F s W1)=>redirects_my hF h1 hB.p hb)
  have H0:=Lib.hid (Mz.start h)
  clear h hx hg
  go_enter Tryz.func111,Tryz.ntmps111
  go_upto_region 1 with fail
  refine gen1 fun W0 hb0 k0 _=>?_
  have HBX:=Lib.hid k0
  have b0:=HBX.out.cell 0
  have H1:=Lib.hid (H0.out.next hb0)
  have HZ:=Lib.hid (Mz.start H1.out.m)
  clear hb0 k0
  go_wp2_with (first
    | (go_at_call 58
       with_reducible refine(HC1.out _ HZ.out.m).mono ?_
       rintro e w1 ⟨rfl,hz⟩
       have H2:=Lib.hid (HZ.out.then hz)
       have b0:=(Bk.kt HBX.out H2.out.f.kt (by decide)).cell 0
       clear hz)
    | (go_at_call 14
       refine(HX.out _ H2.out.m _ (Bk.kt HBX.out H2.out.f.kt (by decide))).mono ?_
       rintro e w2 ⟨rfl,hz⟩
       have H3:=Lib.hid (H2.out.then hz)
       clear hz)
    | fail)
  go_ret
  exact⟨rfl,H1.out.then H3.out⟩
set_option maxHeartbeats 1000000 in
theorem redirect_mn {g:Nat} {fv:Value} {F:List Lf} {s:Ps} {W:World} (hF:FB F) (h:Mk g fv F s W) (hB:Bd F 99 s) (hb:redirB F s=false) :
    Calls Tryz.prog 111 #[.pointer (some ⟨g,0,none⟩)] W fun e w'=>e=.returned (.bool false)∧Mz g fv F W (s) w':=by
  have HC1:=Lib.hid (fun W1 (h1:Mk g fv F s W1)=>redirects_mn hF h1 hB.p hb)
  have H0:=Lib.hid (Mz.start h)
  clear h
  go_enter Tryz.func111,Tryz.ntmps111
  go_upto_region 1 with fail
  refine gen1 fun W0 hb0 k0 _=>?_
  have b0:=k0.cell 0
  have H1:=Lib.hid (H0.out.next hb0)
  clear hb0 k0
  go_wp2_with (
    (go_at_call 58
     with_reducible refine(HC1.out _ H1.out.m).mono ?_
     rintro e w1 ⟨rfl,hz⟩
     have H2:=Lib.hid (H1.out.then hz)
     clear hz))
  go_ret
  exact⟨rfl,H2.out⟩
end Go.Proofs.YtlbfdbinaekjoaaGreatDoor
