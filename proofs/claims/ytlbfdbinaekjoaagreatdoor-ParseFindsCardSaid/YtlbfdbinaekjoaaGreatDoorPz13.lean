/- The parser: compounds. -/
import Derived.Test.YtlbfdbinaekjoaaGreatDoorPw13
import Derived.Laws.EntriesVeiled
namespace Go.Proofs.YtlbfdbinaekjoaaGreatDoor
open Go.RowKit
set_option linter.unusedVariables false
set_option linter.unusedSimpArgs false
set_option maxRecDepth 100000
theorem bk_nem {w:World} {a b:Nat} {t u:TypeId} {cs ds:Array Value} (h:Bk w a t cs) (k:Bk w b u ds) (hne:t≠u):a≠b:=by
  rintro rfl
  unfold Bk at h k
  rw[h] at k
  injection k with k
  injection k with _ k
  exact hne k
theorem Mz.setNew {g b:Nat} {fv:Value} {F:List Lf} {s:Ps} {W W1:World} {ty:TypeId} {cs:Array Value} {v:Value} (h:Mz g fv F W s W1) (hk:Bk W1 b ty cs) (hb:W.heap.size≤b) (hg:g≤b) (ht:ty∉[42,38]) (hl:35≠ty) :
    Mz g fv F W s (W1.setCell ⟨b,0,none⟩ v):=by
  obtain⟨lv,h1,h2⟩:=h.m.w
  have e1:42≠ty:=fun e=>ht (by rw[←e];simp)
  have e2:38≠ty:=fun e=>ht (by rw[←e];simp)
  have hne:g≠b:=bk_nem h1 hk e1
  refine⟨⟨⟨lv,h1.far (p:=⟨b,0,none⟩) hne v,own_far h2 (own_ne h2 hk e2) v⟩,h.m.f.keep ((Below.refl g W1).setCell (p:=⟨b,0,none⟩) hg v) (Nat.le_refl _)⟩,⟨h.f.hb.setCell (p:=⟨b,0,none⟩) hg v,fun k o hk1 ho=>?_⟩⟩
  have h3:=(Array.getElem?_eq_some_iff.1 hk1).1
  exact(Below.heap_setCell _ _ _ k (by show k≠b;omega)).trans (h.f.kt k o hk1 ho)
theorem each13_m {g:Nat} {fv:Value} {F:List Lf} {L:Ps→Ps} {q:Nat} {s:Ps} {W:World} (hF:FB F) (hL:GL F L) (HL:ListC g fv F L q) (h:Mk g fv F s W) (hq:q≤s.p) (hB:Bd F 0 s) :
    Calls Tryz.prog 108 #[.pointer (some ⟨g,0,none⟩)] W fun e w'=>e=.returned (.tuple #[])∧Mz g fv F W (eachP F L s) w':=by
  cases hw:isW F s.p
  ·exact each0_m hF hL HL h hq hB hw
  ·cases hn:nameT (tx F s.p)
   ·exact each1_m hF hL HL h hq hB hw hn
   ·exact each2_m hF hL HL h hq hB hw hn
theorem comp_node {g bx by_ fX k:Nat} {fv:Value} {F:List Lf} {s:Ps} {W:World} {X:Ps→Ps} (hF:FB F) (h:Mk g fv F s W) (hs:s.p<F.length) (hB:Bd F 30 s) (hd:s.deep<200) (hk:k≤18)
    (hb:Bk W bx 40 #[.pointer (some ⟨g,0,none⟩)]) (hm:Bk W by_ 1 #[.func (.func fX) #[.pointer (some ⟨g,0,none⟩)] #[]])
    (eg:∀args w,(callFunc fX args).run Tryz.prog w=.ok (.enter fX args) w) (hg:∀t:Ps,t.p≤F.length→Gd F.length 14 t (X t))
    (hX:∀(t:Ps) W1,t.p=s.p+1→Bd F 0 t→Mk g fv F t W1→Calls Tryz.prog fX #[.pointer (some ⟨g,0,none⟩)] W1 fun e w'=>e=.returned (.tuple #[])∧Mz g fv F W1 (X t) w') :
    Calls Tryz.prog 87 #[.pointer (some ⟨g,0,none⟩),.int .i64 (k:Int),.func (.func 110) #[] #[.pointer (some ⟨bx,0,none⟩),.pointer (some ⟨by_,0,none⟩)]] W fun e w'=>e=.returned (.tuple #[])∧Mz g fv F W (nestP k (fun t=>redirsP F (X (nextP t))) s) w':=by
  have hi:Bd F 31 (inN k {s with deep:=s.deep+1}):=⟨hB.p,by have:=hB.l;show (s.l++[_]).length≤46*s.p+31;rw[List.length_append];show s.l.length+1≤_;omega,by show s.deep+1≤200;omega⟩
  have hn:=hi.next hs (by omega)
  have g1:=hg _ hn.p
  have hB1:=hn.gd g1
  have g2:=gd_redirs (F:=F) hB1.p
  have hN:=hF.n
  have l1:(nextP (inN k {s with deep:=s.deep+1})).l.length=s.l.length+1:=by show (s.l++[_]).length=_;simp
  have h1:=g1.l
  have h2:=g2.l
  have h3:=g2.N
  have h4:=g2.dp
  have h5:=g1.dp
  exact nested_m (s:=s) (t:=redirsP F (X (nextP (inN k {s with deep:=s.deep+1})))) k _ #[] #[.pointer (some ⟨bx,0,none⟩),.pointer (some ⟨by_,0,none⟩)] h (hB.l5 hF (by omega)) hk (by omega)
    (enters_of Tryz.func110 (by kernel_rfl) rfl)
    (fun W1 z1=>compound1_m (s:=inN k {s with deep:=s.deep+1}) hF z1.m hs (hB1.mono (by omega)) (z1.box hb (by decide)) (z1.box hm (by decide)) eg (fun W2 z2=>hX _ _ rfl hn z2)) (by omega) (by omega) (h4.trans (h5.trans rfl))
set_option maxHeartbeats 2000000 in
theorem comp9_m {g:Nat} {fv:Value} {F:List Lf} {L:Ps→Ps} {q:Nat} {s:Ps} {W:World} (hF:FB F) (hL:GL F L) (HL:ListC g fv F L q) (h:Mk g fv F s W) (hq:q≤s.p+1) (hB:Bd F 30 s) (hb:compB F s=true) (hc:sg F s.p=123) :
    Calls Tryz.prog 85 #[.pointer (some ⟨g,0,none⟩)] W fun e w'=>e=.returned (.tuple #[])∧Mz g fv F W (compP F L s) w':=by
  have hs:=comp_lt hb
  have hd:s.deep<200:=by
    unfold compB at hb
    rw[Bool.and_eq_true] at hb
    exact of_decide_eq_true hb.1
  have hT:compP F L s=nestP 9 (fun t=>redirsP F ((fun t=>wantP F 125 (bodyP F L t)) (nextP t))) s:=by
    unfold compP
    rw[hc]
    rfl
  rw[hT]
  clear hT
  have hgX:∀t:Ps,t.p≤F.length→Gd F.length 14 t (wantP F 125 (bodyP F L t)):=fun t ht=>gd_ins hL 123 ht
  have hmix:Tryz.prog.follows .mixedOrders=true:=by kernel_rfl
  have HN:=Lib.hid (fun W1 (h1:Mk g fv F s W1) bx by_ hbx hby=>comp_node (bx:=bx) (by_:=by_) (fX:=104) (X:=fun t=>wantP F 125 (bodyP F L t)) (k:=9) hF h1 hs hB hd (by omega) hbx hby (enters_of Tryz.func104 (by kernel_rfl) rfl) hgX (fun t W2 ht hBt h2=>brace_m hF hL HL h2 (by omega) hBt))
  have HC1:=Lib.hid (fun W1 (h1:Mk g fv F s W1)=>sign_mz hF h1 hB.p 123 hc.symm)
  have hgl:=h.lt
  have H0:=Lib.hid (Mz.start h)
  clear h hc hb hd hgX
  go_enter Tryz.func85,Tryz.ntmps85
  go_upto_region 1 with fail
  refine gen1 fun W0 hb0 k0 hs0=>?_
  have HBX:=Lib.hid k0
  have b0:=HBX.out.cell 0
  have hbl:=HBX.out.lt
  have hW0:W.heap.size≤W0.heap.size:=by omega
  have hgW:g≤W0.heap.size:=by omega
  have H1:=Lib.hid (H0.out.next hb0)
  clear hb0 k0 hs0
  go_region
  skip
  have hB3:Below W0.heap.size W0 ((W0.alloc (.cells #[(.func (.func 104) #[.pointer (some ⟨g,0,none⟩)] #[])] 1)).drew):=((Below.refl _ W0).alloc (Nat.le_refl _) _).drew
  have ky:Bk ((W0.alloc (.cells #[(.func (.func 104) #[.pointer (some ⟨g,0,none⟩)] #[])] 1)).drew) W0.heap.size 1 #[(.func (.func 104) #[.pointer (some ⟨g,0,none⟩)] #[])]:=Bk.new W0 _ _
  generalize ((W0.alloc (.cells #[(.func (.func 104) #[.pointer (some ⟨g,0,none⟩)] #[])] 1)).drew)=W3 at ky hB3 ⊢
  have HK:=Lib.hid ky
  have H3:=Lib.hid (H1.out.next hB3)
  have HX3:=Lib.hid (HBX.out.below hB3 hbl)
  clear ky hB3
  clear b0
  have b0:=HX3.out.cell 0
  go_upto_region 3 with (
    (go_at_call 49
     with_reducible refine(HC1.out _ H3.out.m).mono ?_
     rintro e w4 ⟨rfl,hz⟩
     have H4:=Lib.hid (H3.out.then hz)
     have HK4:=Lib.hid (Bk.kt HK.out hz.f.kt (by decide))
     have HX4:=Lib.hid (Bk.kt HX3.out hz.f.kt (by decide))
     clear hz))
  have b0:=HX4.out.cell 0
  have H5:=Lib.hid H4.out
  have HK5:=Lib.hid HK4.out
  have HX5:=Lib.hid HX4.out
  go_wp2_with (
    (go_at_call 87
     refine(HN.out _ H5.out.m _ _ HX5.out HK5.out).mono ?_
     rintro e w6 ⟨rfl,hz⟩
     have H6:=Lib.hid (H5.out.then hz)
     clear hz))
  first|go_end0|refine bodyPost_ret (results_none rfl _ _ _) rfl ?_
  exact⟨rfl,H6.out⟩
set_option maxHeartbeats 2000000 in
theorem comp10_m {g:Nat} {fv:Value} {F:List Lf} {L:Ps→Ps} {q:Nat} {s:Ps} {W:World} (hF:FB F) (hL:GL F L) (HL:ListC g fv F L q) (h:Mk g fv F s W) (hq:q≤s.p+1) (hB:Bd F 30 s) (hb:compB F s=true) (hc:sg F s.p=40) :
    Calls Tryz.prog 85 #[.pointer (some ⟨g,0,none⟩)] W fun e w'=>e=.returned (.tuple #[])∧Mz g fv F W (compP F L s) w':=by
  have hs:=comp_lt hb
  have hd:s.deep<200:=by
    unfold compB at hb
    rw[Bool.and_eq_true] at hb
    exact of_decide_eq_true hb.1
  have hT:compP F L s=nestP 10 (fun t=>redirsP F ((fun t=>wantP F 41 (bodyP F L t)) (nextP t))) s:=by
    unfold compP
    rw[hc]
    rfl
  rw[hT]
  clear hT
  have hgX:∀t:Ps,t.p≤F.length→Gd F.length 14 t (wantP F 41 (bodyP F L t)):=fun t ht=>gd_ins hL 40 ht
  have hmix:Tryz.prog.follows .mixedOrders=true:=by kernel_rfl
  have HN:=Lib.hid (fun W1 (h1:Mk g fv F s W1) bx by_ hbx hby=>comp_node (bx:=bx) (by_:=by_) (fX:=105) (X:=fun t=>wantP F 41 (bodyP F L t)) (k:=10) hF h1 hs hB hd (by omega) hbx hby (enters_of Tryz.func105 (by kernel_rfl) rfl) hgX (fun t W2 ht hBt h2=>subshell_m hF hL HL h2 (by omega) hBt))
  have HC1:=Lib.hid (fun W1 (h1:Mk g fv F s W1)=>sign_mz hF h1 hB.p 40 hc.symm)
  have hgl:=h.lt
  have H0:=Lib.hid (Mz.start h)
  clear h hc hb hd hgX
  go_enter Tryz.func85,Tryz.ntmps85
  go_upto_region 1 with fail
  refine gen1 fun W0 hb0 k0 hs0=>?_
  have HBX:=Lib.hid k0
  have b0:=HBX.out.cell 0
  have hbl:=HBX.out.lt
  have hW0:W.heap.size≤W0.heap.size:=by omega
  have hgW:g≤W0.heap.size:=by omega
  have H1:=Lib.hid (H0.out.next hb0)
  clear hb0 k0 hs0
  go_region
  skip
  have hB3:Below W0.heap.size W0 ((W0.alloc (.cells #[(.func (.func 104) #[.pointer (some ⟨g,0,none⟩)] #[])] 1)).drew):=((Below.refl _ W0).alloc (Nat.le_refl _) _).drew
  have ky:Bk ((W0.alloc (.cells #[(.func (.func 104) #[.pointer (some ⟨g,0,none⟩)] #[])] 1)).drew) W0.heap.size 1 #[(.func (.func 104) #[.pointer (some ⟨g,0,none⟩)] #[])]:=Bk.new W0 _ _
  generalize ((W0.alloc (.cells #[(.func (.func 104) #[.pointer (some ⟨g,0,none⟩)] #[])] 1)).drew)=W3 at ky hB3 ⊢
  have HK:=Lib.hid ky
  have H3:=Lib.hid (H1.out.next hB3)
  have HX3:=Lib.hid (HBX.out.below hB3 hbl)
  clear ky hB3
  clear b0
  have b0:=HX3.out.cell 0
  go_upto_region 4 with (
    (go_at_call 49
     with_reducible refine(HC1.out _ H3.out.m).mono ?_
     rintro e w4 ⟨rfl,hz⟩
     have H4:=Lib.hid (H3.out.then hz)
     have HK4:=Lib.hid (Bk.kt HK.out hz.f.kt (by decide))
     have HX4:=Lib.hid (Bk.kt HX3.out hz.f.kt (by decide))
     clear hz))
  have b0:=HX4.out.cell 0
  have m0:=HK4.out.cell 0
  simp only[List.getElem?_toArray,List.getElem?_cons_zero] at m0
  have m1:=HK4.out.frozen 0
  go_region
  all_goals (
    have hne:W.heap.size≠W0.heap.size:=by omega
    have H5:=Lib.hid ((Mz.setNew (v:=(.func (.func 105) #[.pointer (some ⟨g,0,none⟩)] #[])) H4.out HK4.out hW0 hgW (by decide) (by decide)).next (Below.refl _ _).drew)
    have k5:Bk _ W0.heap.size 1 #[(.func (.func 105) #[.pointer (some ⟨g,0,none⟩)] #[])]:=(HK4.out.set 0 _).drew
    have HK5:=Lib.hid k5
    have HX5:=Lib.hid (HX4.out.far (p:=⟨W0.heap.size,0,none⟩) hne (.func (.func 105) #[.pointer (some ⟨g,0,none⟩)] #[])).drew
    clear k5
    go_wp2_with (
      (go_at_call 87
       refine(HN.out _ H5.out.m _ _ HX5.out HK5.out).mono ?_
       rintro e w6 ⟨rfl,hz⟩
       have H6:=Lib.hid (H5.out.then hz)
       clear hz))
    first|go_end0|refine bodyPost_ret (results_none rfl _ _ _) rfl ?_
    exact⟨rfl,H6.out⟩)
set_option maxHeartbeats 2000000 in
theorem comp11_m {g:Nat} {fv:Value} {F:List Lf} {L:Ps→Ps} {q:Nat} {s:Ps} {W:World} (hF:FB F) (hL:GL F L) (HL:ListC g fv F L q) (h:Mk g fv F s W) (hq:q≤s.p+1) (hB:Bd F 30 s) (hb:compB F s=true) (hc:sg F s.p=105) :
    Calls Tryz.prog 85 #[.pointer (some ⟨g,0,none⟩)] W fun e w'=>e=.returned (.tuple #[])∧Mz g fv F W (compP F L s) w':=by
  have hs:=comp_lt hb
  have hd:s.deep<200:=by
    unfold compB at hb
    rw[Bool.and_eq_true] at hb
    exact of_decide_eq_true hb.1
  have hT:compP F L s=nestP 11 (fun t=>redirsP F ((fun t=>branP F L t) (nextP t))) s:=by
    unfold compP
    rw[hc]
    rfl
  rw[hT]
  clear hT
  have hgX:∀t:Ps,t.p≤F.length→Gd F.length 14 t (branP F L t):=fun t ht=>gd_ins hL 105 ht
  have hmix:Tryz.prog.follows .mixedOrders=true:=by kernel_rfl
  have HN:=Lib.hid (fun W1 (h1:Mk g fv F s W1) bx by_ hbx hby=>comp_node (bx:=bx) (by_:=by_) (fX:=106) (X:=fun t=>branP F L t) (k:=11) hF h1 hs hB hd (by omega) hbx hby (enters_of Tryz.func106 (by kernel_rfl) rfl) hgX (fun t W2 ht hBt h2=>branches_m hF hL HL h2 (by omega) hBt))
  have HC1:=Lib.hid (fun W1 (h1:Mk g fv F s W1)=>sign_mz hF h1 hB.p 105 hc.symm)
  have hgl:=h.lt
  have H0:=Lib.hid (Mz.start h)
  clear h hc hb hd hgX
  go_enter Tryz.func85,Tryz.ntmps85
  go_upto_region 1 with fail
  refine gen1 fun W0 hb0 k0 hs0=>?_
  have HBX:=Lib.hid k0
  have b0:=HBX.out.cell 0
  have hbl:=HBX.out.lt
  have hW0:W.heap.size≤W0.heap.size:=by omega
  have hgW:g≤W0.heap.size:=by omega
  have H1:=Lib.hid (H0.out.next hb0)
  clear hb0 k0 hs0
  go_region
  skip
  have hB3:Below W0.heap.size W0 ((W0.alloc (.cells #[(.func (.func 104) #[.pointer (some ⟨g,0,none⟩)] #[])] 1)).drew):=((Below.refl _ W0).alloc (Nat.le_refl _) _).drew
  have ky:Bk ((W0.alloc (.cells #[(.func (.func 104) #[.pointer (some ⟨g,0,none⟩)] #[])] 1)).drew) W0.heap.size 1 #[(.func (.func 104) #[.pointer (some ⟨g,0,none⟩)] #[])]:=Bk.new W0 _ _
  generalize ((W0.alloc (.cells #[(.func (.func 104) #[.pointer (some ⟨g,0,none⟩)] #[])] 1)).drew)=W3 at ky hB3 ⊢
  have HK:=Lib.hid ky
  have H3:=Lib.hid (H1.out.next hB3)
  have HX3:=Lib.hid (HBX.out.below hB3 hbl)
  clear ky hB3
  clear b0
  have b0:=HX3.out.cell 0
  go_upto_region 6 with (
    (go_at_call 49
     with_reducible refine(HC1.out _ H3.out.m).mono ?_
     rintro e w4 ⟨rfl,hz⟩
     have H4:=Lib.hid (H3.out.then hz)
     have HK4:=Lib.hid (Bk.kt HK.out hz.f.kt (by decide))
     have HX4:=Lib.hid (Bk.kt HX3.out hz.f.kt (by decide))
     clear hz))
  have b0:=HX4.out.cell 0
  have m0:=HK4.out.cell 0
  simp only[List.getElem?_toArray,List.getElem?_cons_zero] at m0
  have m1:=HK4.out.frozen 0
  go_region
  all_goals (
    have hne:W.heap.size≠W0.heap.size:=by omega
    have H5:=Lib.hid ((Mz.setNew (v:=(.func (.func 106) #[.pointer (some ⟨g,0,none⟩)] #[])) H4.out HK4.out hW0 hgW (by decide) (by decide)).next (Below.refl _ _).drew)
    have k5:Bk _ W0.heap.size 1 #[(.func (.func 106) #[.pointer (some ⟨g,0,none⟩)] #[])]:=(HK4.out.set 0 _).drew
    have HK5:=Lib.hid k5
    have HX5:=Lib.hid (HX4.out.far (p:=⟨W0.heap.size,0,none⟩) hne (.func (.func 106) #[.pointer (some ⟨g,0,none⟩)] #[])).drew
    clear k5
    go_wp2_with (
      (go_at_call 87
       refine(HN.out _ H5.out.m _ _ HX5.out HK5.out).mono ?_
       rintro e w6 ⟨rfl,hz⟩
       have H6:=Lib.hid (H5.out.then hz)
       clear hz))
    first|go_end0|refine bodyPost_ret (results_none rfl _ _ _) rfl ?_
    exact⟨rfl,H6.out⟩)
set_option maxHeartbeats 2000000 in
theorem comp12_m {g:Nat} {fv:Value} {F:List Lf} {L:Ps→Ps} {q:Nat} {s:Ps} {W:World} (hF:FB F) (hL:GL F L) (HL:ListC g fv F L q) (h:Mk g fv F s W) (hq:q≤s.p+1) (hB:Bd F 30 s) (hb:compB F s=true) (hc:sg F s.p=119) :
    Calls Tryz.prog 85 #[.pointer (some ⟨g,0,none⟩)] W fun e w'=>e=.returned (.tuple #[])∧Mz g fv F W (compP F L s) w':=by
  have hs:=comp_lt hb
  have hd:s.deep<200:=by
    unfold compB at hb
    rw[Bool.and_eq_true] at hb
    exact of_decide_eq_true hb.1
  have hT:compP F L s=nestP 12 (fun t=>redirsP F ((fun t=>doP F L (bodyP F L t)) (nextP t))) s:=by
    unfold compP
    rw[hc]
    rfl
  rw[hT]
  clear hT
  have hgX:∀t:Ps,t.p≤F.length→Gd F.length 14 t (doP F L (bodyP F L t)):=fun t ht=>gd_ins hL 119 ht
  have hmix:Tryz.prog.follows .mixedOrders=true:=by kernel_rfl
  have HN:=Lib.hid (fun W1 (h1:Mk g fv F s W1) bx by_ hbx hby=>comp_node (bx:=bx) (by_:=by_) (fX:=107) (X:=fun t=>doP F L (bodyP F L t)) (k:=12) hF h1 hs hB hd (by omega) hbx hby (enters_of Tryz.func107 (by kernel_rfl) rfl) hgX (fun t W2 ht hBt h2=>loop_m hF hL HL h2 (by omega) hBt))
  have HC1:=Lib.hid (fun W1 (h1:Mk g fv F s W1)=>sign_mz hF h1 hB.p 119 hc.symm)
  have hgl:=h.lt
  have H0:=Lib.hid (Mz.start h)
  clear h hc hb hd hgX
  go_enter Tryz.func85,Tryz.ntmps85
  go_upto_region 1 with fail
  refine gen1 fun W0 hb0 k0 hs0=>?_
  have HBX:=Lib.hid k0
  have b0:=HBX.out.cell 0
  have hbl:=HBX.out.lt
  have hW0:W.heap.size≤W0.heap.size:=by omega
  have hgW:g≤W0.heap.size:=by omega
  have H1:=Lib.hid (H0.out.next hb0)
  clear hb0 k0 hs0
  go_region
  skip
  have hB3:Below W0.heap.size W0 ((W0.alloc (.cells #[(.func (.func 104) #[.pointer (some ⟨g,0,none⟩)] #[])] 1)).drew):=((Below.refl _ W0).alloc (Nat.le_refl _) _).drew
  have ky:Bk ((W0.alloc (.cells #[(.func (.func 104) #[.pointer (some ⟨g,0,none⟩)] #[])] 1)).drew) W0.heap.size 1 #[(.func (.func 104) #[.pointer (some ⟨g,0,none⟩)] #[])]:=Bk.new W0 _ _
  generalize ((W0.alloc (.cells #[(.func (.func 104) #[.pointer (some ⟨g,0,none⟩)] #[])] 1)).drew)=W3 at ky hB3 ⊢
  have HK:=Lib.hid ky
  have H3:=Lib.hid (H1.out.next hB3)
  have HX3:=Lib.hid (HBX.out.below hB3 hbl)
  clear ky hB3
  clear b0
  have b0:=HX3.out.cell 0
  go_upto_region 8 with (
    (go_at_call 49
     with_reducible refine(HC1.out _ H3.out.m).mono ?_
     rintro e w4 ⟨rfl,hz⟩
     have H4:=Lib.hid (H3.out.then hz)
     have HK4:=Lib.hid (Bk.kt HK.out hz.f.kt (by decide))
     have HX4:=Lib.hid (Bk.kt HX3.out hz.f.kt (by decide))
     clear hz))
  have b0:=HX4.out.cell 0
  have m0:=HK4.out.cell 0
  simp only[List.getElem?_toArray,List.getElem?_cons_zero] at m0
  have m1:=HK4.out.frozen 0
  go_region
  all_goals (
    have hne:W.heap.size≠W0.heap.size:=by omega
    have H5:=Lib.hid ((Mz.setNew (v:=(.func (.func 107) #[.pointer (some ⟨g,0,none⟩)] #[])) H4.out HK4.out hW0 hgW (by decide) (by decide)).next (Below.refl _ _).drew)
    have k5:Bk _ W0.heap.size 1 #[(.func (.func 107) #[.pointer (some ⟨g,0,none⟩)] #[])]:=(HK4.out.set 0 _).drew
    have HK5:=Lib.hid k5
    have HX5:=Lib.hid (HX4.out.far (p:=⟨W0.heap.size,0,none⟩) hne (.func (.func 107) #[.pointer (some ⟨g,0,none⟩)] #[])).drew
    clear k5
    go_wp2_with (
      (go_at_call 87
       refine(HN.out _ H5.out.m _ _ HX5.out HK5.out).mono ?_
       rintro e w6 ⟨rfl,hz⟩
       have H6:=Lib.hid (H5.out.then hz)
       clear hz))
    first|go_end0|refine bodyPost_ret (results_none rfl _ _ _) rfl ?_
    exact⟨rfl,H6.out⟩)
set_option maxHeartbeats 2000000 in
theorem comp13_m {g:Nat} {fv:Value} {F:List Lf} {L:Ps→Ps} {q:Nat} {s:Ps} {W:World} (hF:FB F) (hL:GL F L) (HL:ListC g fv F L q) (h:Mk g fv F s W) (hq:q≤s.p+1) (hB:Bd F 30 s) (hb:compB F s=true) (hc:sg F s.p=114) :
    Calls Tryz.prog 85 #[.pointer (some ⟨g,0,none⟩)] W fun e w'=>e=.returned (.tuple #[])∧Mz g fv F W (compP F L s) w':=by
  have hs:=comp_lt hb
  have hd:s.deep<200:=by
    unfold compB at hb
    rw[Bool.and_eq_true] at hb
    exact of_decide_eq_true hb.1
  have hT:compP F L s=nestP 13 (fun t=>redirsP F ((fun t=>eachP F L t) (nextP t))) s:=by
    unfold compP
    rw[hc]
    rfl
  rw[hT]
  clear hT
  have hgX:∀t:Ps,t.p≤F.length→Gd F.length 14 t (eachP F L t):=fun t ht=>gd_ins hL 114 ht
  have hmix:Tryz.prog.follows .mixedOrders=true:=by kernel_rfl
  have HN:=Lib.hid (fun W1 (h1:Mk g fv F s W1) bx by_ hbx hby=>comp_node (bx:=bx) (by_:=by_) (fX:=108) (X:=fun t=>eachP F L t) (k:=13) hF h1 hs hB hd (by omega) hbx hby (enters_of Tryz.func108 (by kernel_rfl) rfl) hgX (fun t W2 ht hBt h2=>each13_m hF hL HL h2 (by omega) hBt))
  have HC1:=Lib.hid (fun W1 (h1:Mk g fv F s W1)=>sign_mz hF h1 hB.p 114 hc.symm)
  have hgl:=h.lt
  have H0:=Lib.hid (Mz.start h)
  clear h hc hb hd hgX
  go_enter Tryz.func85,Tryz.ntmps85
  go_upto_region 1 with fail
  refine gen1 fun W0 hb0 k0 hs0=>?_
  have HBX:=Lib.hid k0
  have b0:=HBX.out.cell 0
  have hbl:=HBX.out.lt
  have hW0:W.heap.size≤W0.heap.size:=by omega
  have hgW:g≤W0.heap.size:=by omega
  have H1:=Lib.hid (H0.out.next hb0)
  clear hb0 k0 hs0
  go_region
  skip
  have hB3:Below W0.heap.size W0 ((W0.alloc (.cells #[(.func (.func 104) #[.pointer (some ⟨g,0,none⟩)] #[])] 1)).drew):=((Below.refl _ W0).alloc (Nat.le_refl _) _).drew
  have ky:Bk ((W0.alloc (.cells #[(.func (.func 104) #[.pointer (some ⟨g,0,none⟩)] #[])] 1)).drew) W0.heap.size 1 #[(.func (.func 104) #[.pointer (some ⟨g,0,none⟩)] #[])]:=Bk.new W0 _ _
  generalize ((W0.alloc (.cells #[(.func (.func 104) #[.pointer (some ⟨g,0,none⟩)] #[])] 1)).drew)=W3 at ky hB3 ⊢
  have HK:=Lib.hid ky
  have H3:=Lib.hid (H1.out.next hB3)
  have HX3:=Lib.hid (HBX.out.below hB3 hbl)
  clear ky hB3
  clear b0
  have b0:=HX3.out.cell 0
  go_upto_region 10 with (
    (go_at_call 49
     with_reducible refine(HC1.out _ H3.out.m).mono ?_
     rintro e w4 ⟨rfl,hz⟩
     have H4:=Lib.hid (H3.out.then hz)
     have HK4:=Lib.hid (Bk.kt HK.out hz.f.kt (by decide))
     have HX4:=Lib.hid (Bk.kt HX3.out hz.f.kt (by decide))
     clear hz))
  have b0:=HX4.out.cell 0
  have m0:=HK4.out.cell 0
  simp only[List.getElem?_toArray,List.getElem?_cons_zero] at m0
  have m1:=HK4.out.frozen 0
  go_region
  all_goals (
    have hne:W.heap.size≠W0.heap.size:=by omega
    have H5:=Lib.hid ((Mz.setNew (v:=(.func (.func 108) #[.pointer (some ⟨g,0,none⟩)] #[])) H4.out HK4.out hW0 hgW (by decide) (by decide)).next (Below.refl _ _).drew)
    have k5:Bk _ W0.heap.size 1 #[(.func (.func 108) #[.pointer (some ⟨g,0,none⟩)] #[])]:=(HK4.out.set 0 _).drew
    have HK5:=Lib.hid k5
    have HX5:=Lib.hid (HX4.out.far (p:=⟨W0.heap.size,0,none⟩) hne (.func (.func 108) #[.pointer (some ⟨g,0,none⟩)] #[])).drew
    clear k5
    go_wp2_with (
      (go_at_call 87
       refine(HN.out _ H5.out.m _ _ HX5.out HK5.out).mono ?_
       rintro e w6 ⟨rfl,hz⟩
       have H6:=Lib.hid (H5.out.then hz)
       clear hz))
    first|go_end0|refine bodyPost_ret (results_none rfl _ _ _) rfl ?_
    exact⟨rfl,H6.out⟩)
set_option maxHeartbeats 2000000 in
theorem comp14_m {g:Nat} {fv:Value} {F:List Lf} {L:Ps→Ps} {q:Nat} {s:Ps} {W:World} (hF:FB F) (hL:GL F L) (HL:ListC g fv F L q) (h:Mk g fv F s W) (hq:q≤s.p+1) (hB:Bd F 30 s) (hb:compB F s=true) (hc:sg F s.p=99) :
    Calls Tryz.prog 85 #[.pointer (some ⟨g,0,none⟩)] W fun e w'=>e=.returned (.tuple #[])∧Mz g fv F W (compP F L s) w':=by
  have hs:=comp_lt hb
  have hd:s.deep<200:=by
    unfold compB at hb
    rw[Bool.and_eq_true] at hb
    exact of_decide_eq_true hb.1
  have hT:compP F L s=nestP 14 (fun t=>redirsP F ((fun t=>casesP F L t) (nextP t))) s:=by
    unfold compP
    rw[hc]
    rfl
  rw[hT]
  clear hT
  have hgX:∀t:Ps,t.p≤F.length→Gd F.length 14 t (casesP F L t):=fun t ht=>gd_ins hL 99 ht
  have hmix:Tryz.prog.follows .mixedOrders=true:=by kernel_rfl
  have HN:=Lib.hid (fun W1 (h1:Mk g fv F s W1) bx by_ hbx hby=>comp_node (bx:=bx) (by_:=by_) (fX:=109) (X:=fun t=>casesP F L t) (k:=14) hF h1 hs hB hd (by omega) hbx hby (enters_of Tryz.func109 (by kernel_rfl) rfl) hgX (fun t W2 ht hBt h2=>cases_m hF hL HL h2 (by omega) hBt))
  have HC1:=Lib.hid (fun W1 (h1:Mk g fv F s W1)=>sign_mz hF h1 hB.p 99 hc.symm)
  have hgl:=h.lt
  have H0:=Lib.hid (Mz.start h)
  clear h hc hb hd hgX
  go_enter Tryz.func85,Tryz.ntmps85
  go_upto_region 1 with fail
  refine gen1 fun W0 hb0 k0 hs0=>?_
  have HBX:=Lib.hid k0
  have b0:=HBX.out.cell 0
  have hbl:=HBX.out.lt
  have hW0:W.heap.size≤W0.heap.size:=by omega
  have hgW:g≤W0.heap.size:=by omega
  have H1:=Lib.hid (H0.out.next hb0)
  clear hb0 k0 hs0
  go_region
  skip
  have hB3:Below W0.heap.size W0 ((W0.alloc (.cells #[(.func (.func 104) #[.pointer (some ⟨g,0,none⟩)] #[])] 1)).drew):=((Below.refl _ W0).alloc (Nat.le_refl _) _).drew
  have ky:Bk ((W0.alloc (.cells #[(.func (.func 104) #[.pointer (some ⟨g,0,none⟩)] #[])] 1)).drew) W0.heap.size 1 #[(.func (.func 104) #[.pointer (some ⟨g,0,none⟩)] #[])]:=Bk.new W0 _ _
  generalize ((W0.alloc (.cells #[(.func (.func 104) #[.pointer (some ⟨g,0,none⟩)] #[])] 1)).drew)=W3 at ky hB3 ⊢
  have HK:=Lib.hid ky
  have H3:=Lib.hid (H1.out.next hB3)
  have HX3:=Lib.hid (HBX.out.below hB3 hbl)
  clear ky hB3
  clear b0
  have b0:=HX3.out.cell 0
  go_upto_region 12 with (
    (go_at_call 49
     with_reducible refine(HC1.out _ H3.out.m).mono ?_
     rintro e w4 ⟨rfl,hz⟩
     have H4:=Lib.hid (H3.out.then hz)
     have HK4:=Lib.hid (Bk.kt HK.out hz.f.kt (by decide))
     have HX4:=Lib.hid (Bk.kt HX3.out hz.f.kt (by decide))
     clear hz))
  have b0:=HX4.out.cell 0
  have m0:=HK4.out.cell 0
  simp only[List.getElem?_toArray,List.getElem?_cons_zero] at m0
  have m1:=HK4.out.frozen 0
  go_region
  all_goals (
    have hne:W.heap.size≠W0.heap.size:=by omega
    have H5:=Lib.hid ((Mz.setNew (v:=(.func (.func 109) #[.pointer (some ⟨g,0,none⟩)] #[])) H4.out HK4.out hW0 hgW (by decide) (by decide)).next (Below.refl _ _).drew)
    have k5:Bk _ W0.heap.size 1 #[(.func (.func 109) #[.pointer (some ⟨g,0,none⟩)] #[])]:=(HK4.out.set 0 _).drew
    have HK5:=Lib.hid k5
    have HX5:=Lib.hid (HX4.out.far (p:=⟨W0.heap.size,0,none⟩) hne (.func (.func 109) #[.pointer (some ⟨g,0,none⟩)] #[])).drew
    clear k5
    go_wp2_with (
      (go_at_call 87
       refine(HN.out _ H5.out.m _ _ HX5.out HK5.out).mono ?_
       rintro e w6 ⟨rfl,hz⟩
       have H6:=Lib.hid (H5.out.then hz)
       clear hz))
    first|go_end0|refine bodyPost_ret (results_none rfl _ _ _) rfl ?_
    exact⟨rfl,H6.out⟩)
theorem compound_m {g:Nat} {fv:Value} {F:List Lf} {L:Ps→Ps} {q:Nat} {s:Ps} {W:World} (hF:FB F) (hL:GL F L) (HL:ListC g fv F L q) (h:Mk g fv F s W) (hq:q≤s.p+1) (hB:Bd F 30 s) (hb:compB F s=true) :
    Calls Tryz.prog 85 #[.pointer (some ⟨g,0,none⟩)] W fun e w'=>e=.returned (.tuple #[])∧Mz g fv F W (compP F L s) w':=by
  have hc:sg F s.p∈[123,40,105,119,114,99]:=by
    have h1:=hb
    unfold compB at h1
    rw[Bool.and_eq_true] at h1
    exact List.contains_iff_mem.1 h1.2
  simp only[List.mem_cons,List.not_mem_nil,or_false] at hc
  rcases hc with hc|hc|hc|hc|hc|hc
  ·exact comp9_m hF hL HL h hq hB hb hc
  ·exact comp10_m hF hL HL h hq hB hb hc
  ·exact comp11_m hF hL HL h hq hB hb hc
  ·exact comp12_m hF hL HL h hq hB hb hc
  ·exact comp13_m hF hL HL h hq hB hb hc
  ·exact comp14_m hF hL HL h hq hB hb hc
end Go.Proofs.YtlbfdbinaekjoaaGreatDoor
namespace Go.Proofs.YtlbfdbinaekjoaaGreatDoor
open Go.RowKit
set_option linter.unusedVariables false
set_option linter.unusedSimpArgs false
set_option maxRecDepth 100000
theorem simpP_r {F:List Lf} {s:Ps} (hs:s.p≤F.length) (hb:redirB F s=true):simpP F s=simpP F (redirP F s):=by
  unfold simpP
  rw[LC.stepy simp0_c hs (t:=redirP F s) (by show (if _ then _ else _)=_;rw[if_pos hb])]
theorem simpP_a {F:List Lf} {s:Ps} (hs:s.p≤F.length) (hb:redirB F s=false) (hw:isW F s.p=true) (ha:asgT (tx F s.p)=true):simpP F s=simpP F (leafP 6 s):=by
  unfold simpP
  rw[LC.stepy simp0_c hs (t:=leafP 6 s) (by show (if _ then _ else if _ then _ else _)=_;rw[if_neg (by rw[hb];decide),if_pos (by rw[hw,ha];rfl)])]
theorem simpP_w {F:List Lf} {s:Ps} (hs:s.p≤F.length) (hb:redirB F s=false) (hw:isW F s.p=true) (ha:asgT (tx F s.p)=false):simpP F s=simp1P F (leafP 7 s):=by
  have e:=LC.stepn simp0_c hs (t:=s) (by show (if _ then _ else if _ then _ else _)=_;rw[if_neg (by rw[hb];decide),if_neg (by rw[hw,ha];decide)])
  unfold simpP
  simp only[e,hw,if_true]
theorem simpP_e {F:List Lf} {s:Ps} (hs:s.p≤F.length) (hb:redirB F s=false) (hw:isW F s.p=false):simpP F s=s:=by
  have e:=LC.stepn simp0_c hs (t:=s) (by show (if _ then _ else if _ then _ else _)=_;rw[if_neg (by rw[hb];decide),if_neg (by rw[hw];exact fun h=>by cases h)])
  unfold simpP
  simp only[e,hw,if_false,Bool.false_eq_true]
theorem simp1_r {F:List Lf} {s:Ps} (hs:s.p≤F.length) (hb:redirB F s=true):simp1P F s=simp1P F (redirP F s):=
  LC.stepy simp1_c hs (t:=redirP F s) (by show (if _ then _ else _)=_;rw[if_pos hb])
theorem simp1_w {F:List Lf} {s:Ps} (hs:s.p≤F.length) (hb:redirB F s=false) (hw:isW F s.p=true):simp1P F s=simp1P F (leafP 7 s):=
  LC.stepy simp1_c hs (t:=leafP 7 s) (by show (if _ then _ else if _ then _ else _)=_;rw[if_neg (by rw[hb];decide),if_pos hw])
theorem simp1_e {F:List Lf} {s:Ps} (hs:s.p≤F.length) (hb:redirB F s=false) (hw:isW F s.p=false):simp1P F s=s:=
  LC.stepn simp1_c hs (t:=s) (by show (if _ then _ else if _ then _ else _)=_;rw[if_neg (by rw[hb];decide),if_neg (by rw[hw];decide)])
structure Sm (F:List Lf) (T u:Ps) (b:Bool):Prop where
  w:(b=false∧simpP F u=T)∨(b=true∧simp1P F u=T)
theorem sleaf6 {F:List Lf} {u:Ps} (h:isW F u.p=true):Gd F.length 0 u (leafP 6 u)∧u.p<(leafP 6 u).p:=⟨(gd_leaf (F:=F) (k:=6) (isW_lt h)).2.2,(gd_leaf (F:=F) (k:=6) (isW_lt h)).2.1⟩
theorem sleaf7 {F:List Lf} {u:Ps} (h:isW F u.p=true):Gd F.length 0 u (leafP 7 u)∧u.p<(leafP 7 u).p:=⟨(gd_leaf (F:=F) (k:=7) (isW_lt h)).2.2,(gd_leaf (F:=F) (k:=7) (isW_lt h)).2.1⟩
set_option maxHeartbeats 8000000 in
theorem simple_m {g:Nat} {fv:Value} {F:List Lf} {s:Ps} {W:World} (hF:FB F) (h:Mk g fv F s W) (hB:Bd F 27 s) :
    Calls Tryz.prog 89 #[.pointer (some ⟨g,0,none⟩)] W fun e w'=>e=.returned (.tuple #[])∧Mz g fv F W (simpP F s) w':=by
  have hmix:Tryz.prog.follows .mixedOrders=true:=by kernel_rfl
  obtain⟨T,hT⟩:∃T,T=simpP F s:=⟨_,rfl⟩
  rw[←hT]
  have HT:=Lib.hid hT
  clear hT
  have H0:=Lib.hid (Mz.start h)
  clear h
  go_enter Tryz.func89,Tryz.ntmps89
  go_wp2_with fail
  go_step3
  go_wp2_with fail
  go_step3
  go_wp2_with fail
  go_loopw [2] (fun v wr=>∃(u:Ps) (b:Bool),v=.bool b∧Bd F 27 u∧Sm F T u b∧Mz g fv F W u wr) (fun _ wr=>F.length-pOf g wr)
  case atStart=>exact⟨s,false,rfl,hB,⟨.inl ⟨rfl,HT.out.symm⟩⟩,H0.out⟩
  case round=>
    obtain⟨u,b,rfl,hBu,hsm,hz⟩:=hrel
    have U0:=Lib.hid hz
    have hup:=hz.m.pOf
    have HP:=Lib.hid hup
    have HS:=Lib.hid hsm
    clear hz hup hsm
    cases hb:redirB F u
    ·cases hw:isW F u.p
     ·have hT9:T=u:=by
        rcases HS.out.w with ⟨_,h2⟩|⟨_,h2⟩
        ·exact h2.symm.trans (simpP_e hBu.p hb hw)
        ·exact h2.symm.trans (simp1_e hBu.p hb hw)
      have HT9:=Lib.hid hT9
      clear hT9
      have NC1:=Lib.hid (fun W1 (h1:Mk g fv F (u) W1)=>redirect_mn hF h1 (hBu.mono (by omega)) hb)
      have NC2:=Lib.hid (fun W1 (h1:Mk g fv F (u) W1)=>isWord_mn hF h1 hBu.p hw)
      go_wp2_with (first
        | (go_at_call 111
           with_reducible refine(NC1.out _ U0.out.m).mono ?_
           rintro e nw1 ⟨rfl,hz⟩
           have N1:=Lib.hid (U0.out.then hz)
           clear hz)
        | (go_at_call 115
           with_reducible refine(NC2.out _ N1.out.m).mono ?_
           rintro e nw2 ⟨rfl,hz⟩
           have N2:=Lib.hid (N1.out.then hz)
           clear hz)
        | fail)
      try rw[Exit.noGoto_normal]
      first|go_end0|refine bodyPost_ret (results_none rfl _ _ _) rfl ?_
      refine⟨rfl,?_⟩
      rw[HT9.out]
      exact N2.out
     ·cases b
      ·cases ha:asgT (tx F u.p)
       have h2:simpP F u=T:=by
         rcases HS.out.w with ⟨h1,h2⟩|⟨h1,h2⟩
         ·exact h2
         ·cases h1
       have hsm:Sm F T (leafP 7 u) true:=⟨.inr ⟨rfl,(simpP_w hBu.p hb hw ha).symm.trans h2⟩⟩
       have HS2:=Lib.hid hsm
       clear hsm h2
       have hy:=sleaf7 hw
       have NC1:=Lib.hid (fun W1 (h1:Mk g fv F (u) W1)=>redirect_mn hF h1 (hBu.mono (by omega)) hb)
       have NC2:=Lib.hid (fun W1 (h1:Mk g fv F (u) W1)=>isWord_my hF h1 hBu.p hw)
       go_upto_region 5 with (first
         | (go_at_call 111
            with_reducible refine(NC1.out _ U0.out.m).mono ?_
            rintro e nw1 ⟨rfl,hz⟩
            have N1:=Lib.hid (U0.out.then hz)
            clear hz)
         | (go_at_call 115
            with_reducible refine(NC2.out _ N1.out.m).mono ?_
            rintro e nw2 ⟨rfl,hz⟩
            have N2:=Lib.hid (N1.out.then hz)
            clear hz)
         | fail)
       have SH:=Lib.hid N2.out
       obtain⟨y0,y1,y3,y4,_⟩:=SH.out.m.cells
       have hlt:=isW_lt hw
       obtain⟨x,hx⟩:∃x,F[u.p]? = some x:=⟨_,List.getElem?_eq_getElem hlt⟩
       have htx:tx F u.p=x.tx:=by unfold tx;rw[hx]
       have htl:=hF.t x (List.mem_of_getElem? hx)
       obtain⟨A,c,hfv⟩:=SH.out.m.f.formm
       have hf9:=SH.out.m.f
       rw[hfv] at hf9
       obtain⟨g1,o1,hA9,z0,z1,z2,z3⟩:=lf_cells hf9 hx rfl
       rw[hfv,hA9] at y0
       have u1:(u.p:Int)<(F.length:Int):=by omega
       have u2:(0:Int)≤(u.p:Int):=by omega
       have hn9:=fun W=>assigns_m x.tx W (by omega)
       rw[←htx] at hn9
       rw[ha] at hn9
       rw[htx] at hn9
       have HN:=Lib.hid hn9
       clear hn9 htx hx htl z0 z2 z3 hf9 hA9 hfv y3 y4
       obtain⟨S0,hS0⟩:∃S0:World→Prop,S0=fun w'=>Below nw2.heap.size nw2 w':=⟨_,rfl⟩
       refine wp_region_held (S:=S0) hmix ?_
       show wpAnyH _ _ _ _ _ _ _ _ nw2.drew
       have hS1:S0 nw2.drew:=by rw[hS0];exact(Below.refl _ nw2).drew
       have tc:∀(w':World),S0 w'→∀(a:Addr) (v:Value),nw2.cell? a=some v→w'.cell? a=some v:=fun w' h a v hc=>bkp (by rw[hS0] at h;exact h) hc
       refine wpAnyH_take (i:=0) (v:=.bool false) rfl (by decide +kernel) (by decide +kernel) (by decide +kernel) (fun _ _ _ h=>h) (Or.inl ⟨by rfl,fun w' hS=>?_⟩) hS1 ?_
       ·go_simp
       try simp only[Act.put,List.getElem_toArray,List.getElem_cons_succ,List.getElem_cons_zero,List.setIfInBounds_toArray,List.set_cons_zero,List.set_cons_succ]
       refine wpAnyH_take (i:=1) (v:=.bool true) rfl (by decide +kernel) (by decide +kernel) (by decide +kernel) (fun _ _ _ h=>h) (Or.inl ⟨by rfl,fun w' hS=>?_⟩) hS1 ?_
       ·go_simp
       try simp only[Act.put,List.getElem_toArray,List.getElem_cons_succ,List.getElem_cons_zero,List.setIfInBounds_toArray,List.set_cons_zero,List.set_cons_succ]
       refine wpAnyH_take (i:=2) (v:=.bool true) rfl (by decide +kernel) (by decide +kernel) (by decide +kernel) (fun _ _ _ h=>h) (Or.inl ⟨by rfl,fun w' hS=>?_⟩) hS1 ?_
       ·go_simp
       try simp only[Act.put,List.getElem_toArray,List.getElem_cons_succ,List.getElem_cons_zero,List.setIfInBounds_toArray,List.set_cons_zero,List.set_cons_succ]
       refine wpAnyH_take (i:=3) (v:=.pointer (some ⟨g,0,none⟩)) rfl (by decide +kernel) (by decide +kernel) (by decide +kernel) (fun _ _ _ h=>h) (Or.inl ⟨by rfl,fun w' hS=>?_⟩) hS1 ?_
       ·go_simp
       try simp only[Act.put,List.getElem_toArray,List.getElem_cons_succ,List.getElem_cons_zero,List.setIfInBounds_toArray,List.set_cons_zero,List.set_cons_succ]
       refine wpAnyH_take (i:=4) (v:=.pointer (some ⟨g,0,none⟩)) rfl (by decide +kernel) (by decide +kernel) (by decide +kernel) (fun _ _ _ h=>h) (Or.inl ⟨by rfl,fun w' hS=>?_⟩) hS1 ?_
       ·go_simp
       try simp only[Act.put,List.getElem_toArray,List.getElem_cons_succ,List.getElem_cons_zero,List.setIfInBounds_toArray,List.set_cons_zero,List.set_cons_succ]
       refine wpAnyH_take (i:=5) (v:=.pointer (some ⟨g,0,none⟩)) rfl (by decide +kernel) (by decide +kernel) (by decide +kernel) (fun _ _ _ h=>h) (Or.inl ⟨by rfl,fun w' hS=>?_⟩) hS1 ?_
       ·go_simp
       try simp only[Act.put,List.getElem_toArray,List.getElem_cons_succ,List.getElem_cons_zero,List.setIfInBounds_toArray,List.set_cons_zero,List.set_cons_succ]
       refine wpAnyH_take (i:=6) (v:=.slice (some ⟨g1,o1,none⟩) F.length c) rfl (by decide +kernel) (by decide +kernel) (by decide +kernel) (fun _ _ _ h=>h) (Or.inl ⟨by rfl,fun w' hS=>?_⟩) hS1 ?_
       ·have c0:=tc w' hS _ _ y0;go_simp
       try simp only[Act.put,List.getElem_toArray,List.getElem_cons_succ,List.getElem_cons_zero,List.setIfInBounds_toArray,List.set_cons_zero,List.set_cons_succ]
       refine wpAnyH_take (i:=7) (v:=.pointer (some ⟨g,0,none⟩)) rfl (by decide +kernel) (by decide +kernel) (by decide +kernel) (fun _ _ _ h=>h) (Or.inl ⟨by rfl,fun w' hS=>?_⟩) hS1 ?_
       ·go_simp
       try simp only[Act.put,List.getElem_toArray,List.getElem_cons_succ,List.getElem_cons_zero,List.setIfInBounds_toArray,List.set_cons_zero,List.set_cons_succ]
       refine wpAnyH_take (i:=8) (v:=.pointer (some ⟨g,0,none⟩)) rfl (by decide +kernel) (by decide +kernel) (by decide +kernel) (fun _ _ _ h=>h) (Or.inl ⟨by rfl,fun w' hS=>?_⟩) hS1 ?_
       ·go_simp
       try simp only[Act.put,List.getElem_toArray,List.getElem_cons_succ,List.getElem_cons_zero,List.setIfInBounds_toArray,List.set_cons_zero,List.set_cons_succ]
       refine wpAnyH_take (i:=9) (v:=.pointer (some ⟨g,1,none⟩)) rfl (by decide +kernel) (by decide +kernel) (by decide +kernel) (fun _ _ _ h=>h) (Or.inl ⟨by rfl,fun w' hS=>?_⟩) hS1 ?_
       ·go_simp
       try simp only[Act.put,List.getElem_toArray,List.getElem_cons_succ,List.getElem_cons_zero,List.setIfInBounds_toArray,List.set_cons_zero,List.set_cons_succ]
       refine wpAnyH_take (i:=10) (v:=.int .i64 (u.p:Int)) rfl (by decide +kernel) (by decide +kernel) (by decide +kernel) (fun _ _ _ h=>h) (Or.inl ⟨by rfl,fun w' hS=>?_⟩) hS1 ?_
       ·have c0:=tc w' hS _ _ y1;go_simp
       try simp only[Act.put,List.getElem_toArray,List.getElem_cons_succ,List.getElem_cons_zero,List.setIfInBounds_toArray,List.set_cons_zero,List.set_cons_succ]
       refine wpAnyH_take (i:=11) (v:=.pointer (some ⟨g1,o1+u.p*4,none⟩)) rfl (by decide +kernel) (by decide +kernel) (by decide +kernel) (fun _ _ _ h=>h) (Or.inl ⟨by rfl,fun w' hS=>?_⟩) hS1 ?_
       ·go_simp
       try simp only[Act.put,List.getElem_toArray,List.getElem_cons_succ,List.getElem_cons_zero,List.setIfInBounds_toArray,List.set_cons_zero,List.set_cons_succ]
       refine wpAnyH_take (i:=12) (v:=.pointer (some ⟨g1,o1+u.p*4+1,none⟩)) rfl (by decide +kernel) (by decide +kernel) (by decide +kernel) (fun _ _ _ h=>h) (Or.inl ⟨by rfl,fun w' hS=>?_⟩) hS1 ?_
       ·go_simp
       try simp only[Act.put,List.getElem_toArray,List.getElem_cons_succ,List.getElem_cons_zero,List.setIfInBounds_toArray,List.set_cons_zero,List.set_cons_succ]
       refine wpAnyH_take (i:=13) (v:=.string ⟨x.tx.toArray⟩) rfl (by decide +kernel) (by decide +kernel) (by decide +kernel) (fun _ _ _ h=>h) (Or.inl ⟨by rfl,fun w' hS=>?_⟩) hS1 ?_
       ·have c0:=tc w' hS _ _ z1;go_simp
       try simp only[Act.put,List.getElem_toArray,List.getElem_cons_succ,List.getElem_cons_zero,List.setIfInBounds_toArray,List.set_cons_zero,List.set_cons_succ]
       refine wpAnyH_all (rs:=[14]) (by decide +kernel) (by simp) (allH1 rfl (by rfl) (fun K2 hK2=>?_) (allH0 (S:=S0)))
       go_simp
       go_at_call 116
       refine(HN.out _).mono ?_
       rintro e w9 ⟨rfl,hz⟩
       have HB:=Lib.hid ((Below.refl _ nw2).drew.trans hz)
       clear hz
       have hS3:S0 w9:=by rw[hS0];exact HB.out
       refine hK2 _ _ hS3 ?_
       clear hK2 K2
       try simp only[Act.put,List.getElem_toArray,List.getElem_cons_succ,List.getElem_cons_zero,List.setIfInBounds_toArray,List.set_cons_zero,List.set_cons_succ]
       refine wpAnyH_take (i:=15) (v:=.bool false) rfl (by decide +kernel) (by decide +kernel) (by decide +kernel) (fun _ _ _ h=>h) (Or.inl ⟨by rfl,fun w' hS=>?_⟩) hS3 ?_
       ·go_simp
       try simp only[Act.put,List.getElem_toArray,List.getElem_cons_succ,List.getElem_cons_zero,List.setIfInBounds_toArray,List.set_cons_zero,List.set_cons_succ]
       refine wpAnyH_take (i:=16) (v:=.bool false) rfl (by decide +kernel) (by decide +kernel) (by decide +kernel) (fun _ _ _ h=>h) (Or.inl ⟨by rfl,fun w' hS=>?_⟩) hS3 ?_
       ·go_simp
       try simp only[Act.put,List.getElem_toArray,List.getElem_cons_succ,List.getElem_cons_zero,List.setIfInBounds_toArray,List.set_cons_zero,List.set_cons_succ]
       refine wpAnyH_done (by decide +kernel) ?_ _
       have E0:=Lib.hid (SH.out.next HB.out)
       clear hS0 hS1 tc hS3
       have MC1:=Lib.hid (fun W1 (h1:Mk g fv F (u) W1)=>leaf7_m hF h1 (hBu.mono (by omega)) (isW_lt hw))
       rotate_left
       have h2:simpP F u=T:=by
         rcases HS.out.w with ⟨h1,h2⟩|⟨h1,h2⟩
         ·exact h2
         ·cases h1
       have hsm:Sm F T (leafP 6 u) false:=⟨.inl ⟨rfl,(simpP_a hBu.p hb hw ha).symm.trans h2⟩⟩
       have HS2:=Lib.hid hsm
       clear hsm h2
       have hy:=sleaf6 hw
       have NC1:=Lib.hid (fun W1 (h1:Mk g fv F (u) W1)=>redirect_mn hF h1 (hBu.mono (by omega)) hb)
       have NC2:=Lib.hid (fun W1 (h1:Mk g fv F (u) W1)=>isWord_my hF h1 hBu.p hw)
       go_upto_region 5 with (first
         | (go_at_call 111
            with_reducible refine(NC1.out _ U0.out.m).mono ?_
            rintro e nw1 ⟨rfl,hz⟩
            have N1:=Lib.hid (U0.out.then hz)
            clear hz)
         | (go_at_call 115
            with_reducible refine(NC2.out _ N1.out.m).mono ?_
            rintro e nw2 ⟨rfl,hz⟩
            have N2:=Lib.hid (N1.out.then hz)
            clear hz)
         | fail)
       have SH:=Lib.hid N2.out
       obtain⟨y0,y1,y3,y4,_⟩:=SH.out.m.cells
       have hlt:=isW_lt hw
       obtain⟨x,hx⟩:∃x,F[u.p]? = some x:=⟨_,List.getElem?_eq_getElem hlt⟩
       have htx:tx F u.p=x.tx:=by unfold tx;rw[hx]
       have htl:=hF.t x (List.mem_of_getElem? hx)
       obtain⟨A,c,hfv⟩:=SH.out.m.f.formm
       have hf9:=SH.out.m.f
       rw[hfv] at hf9
       obtain⟨g1,o1,hA9,z0,z1,z2,z3⟩:=lf_cells hf9 hx rfl
       rw[hfv,hA9] at y0
       have u1:(u.p:Int)<(F.length:Int):=by omega
       have u2:(0:Int)≤(u.p:Int):=by omega
       have hn9:=fun W=>assigns_m x.tx W (by omega)
       rw[←htx] at hn9
       rw[ha] at hn9
       rw[htx] at hn9
       have HN:=Lib.hid hn9
       clear hn9 htx hx htl z0 z2 z3 hf9 hA9 hfv y3 y4
       obtain⟨S0,hS0⟩:∃S0:World→Prop,S0=fun w'=>Below nw2.heap.size nw2 w':=⟨_,rfl⟩
       refine wp_region_held (S:=S0) hmix ?_
       show wpAnyH _ _ _ _ _ _ _ _ nw2.drew
       have hS1:S0 nw2.drew:=by rw[hS0];exact(Below.refl _ nw2).drew
       have tc:∀(w':World),S0 w'→∀(a:Addr) (v:Value),nw2.cell? a=some v→w'.cell? a=some v:=fun w' h a v hc=>bkp (by rw[hS0] at h;exact h) hc
       refine wpAnyH_take (i:=0) (v:=.bool false) rfl (by decide +kernel) (by decide +kernel) (by decide +kernel) (fun _ _ _ h=>h) (Or.inl ⟨by rfl,fun w' hS=>?_⟩) hS1 ?_
       ·go_simp
       try simp only[Act.put,List.getElem_toArray,List.getElem_cons_succ,List.getElem_cons_zero,List.setIfInBounds_toArray,List.set_cons_zero,List.set_cons_succ]
       refine wpAnyH_take (i:=1) (v:=.bool true) rfl (by decide +kernel) (by decide +kernel) (by decide +kernel) (fun _ _ _ h=>h) (Or.inl ⟨by rfl,fun w' hS=>?_⟩) hS1 ?_
       ·go_simp
       try simp only[Act.put,List.getElem_toArray,List.getElem_cons_succ,List.getElem_cons_zero,List.setIfInBounds_toArray,List.set_cons_zero,List.set_cons_succ]
       refine wpAnyH_take (i:=2) (v:=.bool true) rfl (by decide +kernel) (by decide +kernel) (by decide +kernel) (fun _ _ _ h=>h) (Or.inl ⟨by rfl,fun w' hS=>?_⟩) hS1 ?_
       ·go_simp
       try simp only[Act.put,List.getElem_toArray,List.getElem_cons_succ,List.getElem_cons_zero,List.setIfInBounds_toArray,List.set_cons_zero,List.set_cons_succ]
       refine wpAnyH_take (i:=3) (v:=.pointer (some ⟨g,0,none⟩)) rfl (by decide +kernel) (by decide +kernel) (by decide +kernel) (fun _ _ _ h=>h) (Or.inl ⟨by rfl,fun w' hS=>?_⟩) hS1 ?_
       ·go_simp
       try simp only[Act.put,List.getElem_toArray,List.getElem_cons_succ,List.getElem_cons_zero,List.setIfInBounds_toArray,List.set_cons_zero,List.set_cons_succ]
       refine wpAnyH_take (i:=4) (v:=.pointer (some ⟨g,0,none⟩)) rfl (by decide +kernel) (by decide +kernel) (by decide +kernel) (fun _ _ _ h=>h) (Or.inl ⟨by rfl,fun w' hS=>?_⟩) hS1 ?_
       ·go_simp
       try simp only[Act.put,List.getElem_toArray,List.getElem_cons_succ,List.getElem_cons_zero,List.setIfInBounds_toArray,List.set_cons_zero,List.set_cons_succ]
       refine wpAnyH_take (i:=5) (v:=.pointer (some ⟨g,0,none⟩)) rfl (by decide +kernel) (by decide +kernel) (by decide +kernel) (fun _ _ _ h=>h) (Or.inl ⟨by rfl,fun w' hS=>?_⟩) hS1 ?_
       ·go_simp
       try simp only[Act.put,List.getElem_toArray,List.getElem_cons_succ,List.getElem_cons_zero,List.setIfInBounds_toArray,List.set_cons_zero,List.set_cons_succ]
       refine wpAnyH_take (i:=6) (v:=.slice (some ⟨g1,o1,none⟩) F.length c) rfl (by decide +kernel) (by decide +kernel) (by decide +kernel) (fun _ _ _ h=>h) (Or.inl ⟨by rfl,fun w' hS=>?_⟩) hS1 ?_
       ·have c0:=tc w' hS _ _ y0;go_simp
       try simp only[Act.put,List.getElem_toArray,List.getElem_cons_succ,List.getElem_cons_zero,List.setIfInBounds_toArray,List.set_cons_zero,List.set_cons_succ]
       refine wpAnyH_take (i:=7) (v:=.pointer (some ⟨g,0,none⟩)) rfl (by decide +kernel) (by decide +kernel) (by decide +kernel) (fun _ _ _ h=>h) (Or.inl ⟨by rfl,fun w' hS=>?_⟩) hS1 ?_
       ·go_simp
       try simp only[Act.put,List.getElem_toArray,List.getElem_cons_succ,List.getElem_cons_zero,List.setIfInBounds_toArray,List.set_cons_zero,List.set_cons_succ]
       refine wpAnyH_take (i:=8) (v:=.pointer (some ⟨g,0,none⟩)) rfl (by decide +kernel) (by decide +kernel) (by decide +kernel) (fun _ _ _ h=>h) (Or.inl ⟨by rfl,fun w' hS=>?_⟩) hS1 ?_
       ·go_simp
       try simp only[Act.put,List.getElem_toArray,List.getElem_cons_succ,List.getElem_cons_zero,List.setIfInBounds_toArray,List.set_cons_zero,List.set_cons_succ]
       refine wpAnyH_take (i:=9) (v:=.pointer (some ⟨g,1,none⟩)) rfl (by decide +kernel) (by decide +kernel) (by decide +kernel) (fun _ _ _ h=>h) (Or.inl ⟨by rfl,fun w' hS=>?_⟩) hS1 ?_
       ·go_simp
       try simp only[Act.put,List.getElem_toArray,List.getElem_cons_succ,List.getElem_cons_zero,List.setIfInBounds_toArray,List.set_cons_zero,List.set_cons_succ]
       refine wpAnyH_take (i:=10) (v:=.int .i64 (u.p:Int)) rfl (by decide +kernel) (by decide +kernel) (by decide +kernel) (fun _ _ _ h=>h) (Or.inl ⟨by rfl,fun w' hS=>?_⟩) hS1 ?_
       ·have c0:=tc w' hS _ _ y1;go_simp
       try simp only[Act.put,List.getElem_toArray,List.getElem_cons_succ,List.getElem_cons_zero,List.setIfInBounds_toArray,List.set_cons_zero,List.set_cons_succ]
       refine wpAnyH_take (i:=11) (v:=.pointer (some ⟨g1,o1+u.p*4,none⟩)) rfl (by decide +kernel) (by decide +kernel) (by decide +kernel) (fun _ _ _ h=>h) (Or.inl ⟨by rfl,fun w' hS=>?_⟩) hS1 ?_
       ·go_simp
       try simp only[Act.put,List.getElem_toArray,List.getElem_cons_succ,List.getElem_cons_zero,List.setIfInBounds_toArray,List.set_cons_zero,List.set_cons_succ]
       refine wpAnyH_take (i:=12) (v:=.pointer (some ⟨g1,o1+u.p*4+1,none⟩)) rfl (by decide +kernel) (by decide +kernel) (by decide +kernel) (fun _ _ _ h=>h) (Or.inl ⟨by rfl,fun w' hS=>?_⟩) hS1 ?_
       ·go_simp
       try simp only[Act.put,List.getElem_toArray,List.getElem_cons_succ,List.getElem_cons_zero,List.setIfInBounds_toArray,List.set_cons_zero,List.set_cons_succ]
       refine wpAnyH_take (i:=13) (v:=.string ⟨x.tx.toArray⟩) rfl (by decide +kernel) (by decide +kernel) (by decide +kernel) (fun _ _ _ h=>h) (Or.inl ⟨by rfl,fun w' hS=>?_⟩) hS1 ?_
       ·have c0:=tc w' hS _ _ z1;go_simp
       try simp only[Act.put,List.getElem_toArray,List.getElem_cons_succ,List.getElem_cons_zero,List.setIfInBounds_toArray,List.set_cons_zero,List.set_cons_succ]
       refine wpAnyH_all (rs:=[14]) (by decide +kernel) (by simp) (allH1 rfl (by rfl) (fun K2 hK2=>?_) (allH0 (S:=S0)))
       go_simp
       go_at_call 116
       refine(HN.out _).mono ?_
       rintro e w9 ⟨rfl,hz⟩
       have HB:=Lib.hid ((Below.refl _ nw2).drew.trans hz)
       clear hz
       have hS3:S0 w9:=by rw[hS0];exact HB.out
       refine hK2 _ _ hS3 ?_
       clear hK2 K2
       try simp only[Act.put,List.getElem_toArray,List.getElem_cons_succ,List.getElem_cons_zero,List.setIfInBounds_toArray,List.set_cons_zero,List.set_cons_succ]
       refine wpAnyH_take (i:=15) (v:=.bool true) rfl (by decide +kernel) (by decide +kernel) (by decide +kernel) (fun _ _ _ h=>h) (Or.inl ⟨by rfl,fun w' hS=>?_⟩) hS3 ?_
       ·go_simp
       try simp only[Act.put,List.getElem_toArray,List.getElem_cons_succ,List.getElem_cons_zero,List.setIfInBounds_toArray,List.set_cons_zero,List.set_cons_succ]
       refine wpAnyH_take (i:=16) (v:=.bool true) rfl (by decide +kernel) (by decide +kernel) (by decide +kernel) (fun _ _ _ h=>h) (Or.inl ⟨by rfl,fun w' hS=>?_⟩) hS3 ?_
       ·go_simp
       try simp only[Act.put,List.getElem_toArray,List.getElem_cons_succ,List.getElem_cons_zero,List.setIfInBounds_toArray,List.set_cons_zero,List.set_cons_succ]
       refine wpAnyH_done (by decide +kernel) ?_ _
       have E0:=Lib.hid (SH.out.next HB.out)
       clear hS0 hS1 tc hS3
       have MC1:=Lib.hid (fun W1 (h1:Mk g fv F (u) W1)=>leaf6_m hF h1 (hBu.mono (by omega)) (isW_lt hw))
       rotate_left
       all_goals (
         go_wp2_with (
           (go_at_call 33
            with_reducible refine(MC1.out _ E0.out.m).mono ?_
            rintro e mw1 ⟨rfl,hz⟩
            have M1:=Lib.hid (E0.out.then hz)
            clear hz))
         refine⟨⟨_,_,rfl,hBu.gd hy.1,HS2.out,M1.out⟩,?_⟩
         rw[M1.out.m.pOf,HP.out]
         have:=hy.2
         have:=hy.1.N
         omega)
      ·have h2:simp1P F u=T:=by
         rcases HS.out.w with ⟨h1,h2⟩|⟨h1,h2⟩
         ·cases h1
         ·exact h2
       have hsm:Sm F T (leafP 7 u) true:=⟨.inr ⟨rfl,(simp1_w hBu.p hb hw).symm.trans h2⟩⟩
       have HS2:=Lib.hid hsm
       clear hsm h2
       have hy:=sleaf7 hw
       have NC1:=Lib.hid (fun W1 (h1:Mk g fv F (u) W1)=>redirect_mn hF h1 (hBu.mono (by omega)) hb)
       have NC2:=Lib.hid (fun W1 (h1:Mk g fv F (u) W1)=>isWord_my hF h1 hBu.p hw)
       go_upto_region 5 with (first
         | (go_at_call 111
            with_reducible refine(NC1.out _ U0.out.m).mono ?_
            rintro e nw1 ⟨rfl,hz⟩
            have N1:=Lib.hid (U0.out.then hz)
            clear hz)
         | (go_at_call 115
            with_reducible refine(NC2.out _ N1.out.m).mono ?_
            rintro e nw2 ⟨rfl,hz⟩
            have N2:=Lib.hid (N1.out.then hz)
            clear hz)
         | fail)
       have SH:=Lib.hid N2.out
       obtain⟨y0,y1,y3,y4,_⟩:=SH.out.m.cells
       clear y0 y1 y3 y4
       obtain⟨S0,hS0⟩:∃S0:World→Prop,S0=fun w'=>Below nw2.heap.size nw2 w':=⟨_,rfl⟩
       refine wp_region_held (S:=S0) hmix ?_
       show wpAnyH _ _ _ _ _ _ _ _ nw2.drew
       have hS1:S0 nw2.drew:=by rw[hS0];exact(Below.refl _ nw2).drew
       have tc:∀(w':World),S0 w'→∀(a:Addr) (v:Value),nw2.cell? a=some v→w'.cell? a=some v:=fun w' h a v hc=>bkp (by rw[hS0] at h;exact h) hc
       refine wpAnyH_take (i:=0) (v:=.bool true) rfl (by decide +kernel) (by decide +kernel) (by decide +kernel) (fun _ _ _ h=>h) (Or.inl ⟨by rfl,fun w' hS=>?_⟩) hS1 ?_
       ·go_simp
       try simp only[Act.put,List.getElem_toArray,List.getElem_cons_succ,List.getElem_cons_zero,List.setIfInBounds_toArray,List.set_cons_zero,List.set_cons_succ]
       refine wpAnyH_take (i:=1) (v:=.bool false) rfl (by decide +kernel) (by decide +kernel) (by decide +kernel) (fun _ _ _ h=>h) (Or.inl ⟨by rfl,fun w' hS=>?_⟩) hS1 ?_
       ·go_simp
       try simp only[Act.put,List.getElem_toArray,List.getElem_cons_succ,List.getElem_cons_zero,List.setIfInBounds_toArray,List.set_cons_zero,List.set_cons_succ]
       refine wpAnyH_take (i:=2) (v:=.bool false) rfl (by decide +kernel) (by decide +kernel) (by decide +kernel) (fun _ _ _ h=>h) (Or.inl ⟨by rfl,fun w' hS=>?_⟩) hS1 ?_
       ·go_simp
       try simp only[Act.put,List.getElem_toArray,List.getElem_cons_succ,List.getElem_cons_zero,List.setIfInBounds_toArray,List.set_cons_zero,List.set_cons_succ]
       refine wpAnyH_take (i:=3) (v:=undef) rfl (by decide +kernel) (by decide +kernel) (by decide +kernel) (fun _ _ _ h=>h) (Or.inr ⟨by rfl,rfl⟩) hS1 ?_
       try simp only[Act.put,List.getElem_toArray,List.getElem_cons_succ,List.getElem_cons_zero,List.setIfInBounds_toArray,List.set_cons_zero,List.set_cons_succ]
       refine wpAnyH_take (i:=4) (v:=undef) rfl (by decide +kernel) (by decide +kernel) (by decide +kernel) (fun _ _ _ h=>h) (Or.inr ⟨by rfl,rfl⟩) hS1 ?_
       try simp only[Act.put,List.getElem_toArray,List.getElem_cons_succ,List.getElem_cons_zero,List.setIfInBounds_toArray,List.set_cons_zero,List.set_cons_succ]
       refine wpAnyH_take (i:=5) (v:=undef) rfl (by decide +kernel) (by decide +kernel) (by decide +kernel) (fun _ _ _ h=>h) (Or.inr ⟨by rfl,rfl⟩) hS1 ?_
       try simp only[Act.put,List.getElem_toArray,List.getElem_cons_succ,List.getElem_cons_zero,List.setIfInBounds_toArray,List.set_cons_zero,List.set_cons_succ]
       refine wpAnyH_take (i:=6) (v:=undef) rfl (by decide +kernel) (by decide +kernel) (by decide +kernel) (fun _ _ _ h=>h) (Or.inr ⟨by rfl,rfl⟩) hS1 ?_
       try simp only[Act.put,List.getElem_toArray,List.getElem_cons_succ,List.getElem_cons_zero,List.setIfInBounds_toArray,List.set_cons_zero,List.set_cons_succ]
       refine wpAnyH_take (i:=7) (v:=undef) rfl (by decide +kernel) (by decide +kernel) (by decide +kernel) (fun _ _ _ h=>h) (Or.inr ⟨by rfl,rfl⟩) hS1 ?_
       try simp only[Act.put,List.getElem_toArray,List.getElem_cons_succ,List.getElem_cons_zero,List.setIfInBounds_toArray,List.set_cons_zero,List.set_cons_succ]
       refine wpAnyH_take (i:=8) (v:=undef) rfl (by decide +kernel) (by decide +kernel) (by decide +kernel) (fun _ _ _ h=>h) (Or.inr ⟨by rfl,rfl⟩) hS1 ?_
       try simp only[Act.put,List.getElem_toArray,List.getElem_cons_succ,List.getElem_cons_zero,List.setIfInBounds_toArray,List.set_cons_zero,List.set_cons_succ]
       refine wpAnyH_take (i:=9) (v:=undef) rfl (by decide +kernel) (by decide +kernel) (by decide +kernel) (fun _ _ _ h=>h) (Or.inr ⟨by rfl,rfl⟩) hS1 ?_
       try simp only[Act.put,List.getElem_toArray,List.getElem_cons_succ,List.getElem_cons_zero,List.setIfInBounds_toArray,List.set_cons_zero,List.set_cons_succ]
       refine wpAnyH_take (i:=10) (v:=undef) rfl (by decide +kernel) (by decide +kernel) (by decide +kernel) (fun _ _ _ h=>h) (Or.inr ⟨by rfl,rfl⟩) hS1 ?_
       try simp only[Act.put,List.getElem_toArray,List.getElem_cons_succ,List.getElem_cons_zero,List.setIfInBounds_toArray,List.set_cons_zero,List.set_cons_succ]
       refine wpAnyH_take (i:=11) (v:=undef) rfl (by decide +kernel) (by decide +kernel) (by decide +kernel) (fun _ _ _ h=>h) (Or.inr ⟨by rfl,rfl⟩) hS1 ?_
       try simp only[Act.put,List.getElem_toArray,List.getElem_cons_succ,List.getElem_cons_zero,List.setIfInBounds_toArray,List.set_cons_zero,List.set_cons_succ]
       refine wpAnyH_take (i:=12) (v:=undef) rfl (by decide +kernel) (by decide +kernel) (by decide +kernel) (fun _ _ _ h=>h) (Or.inr ⟨by rfl,rfl⟩) hS1 ?_
       try simp only[Act.put,List.getElem_toArray,List.getElem_cons_succ,List.getElem_cons_zero,List.setIfInBounds_toArray,List.set_cons_zero,List.set_cons_succ]
       refine wpAnyH_take (i:=13) (v:=undef) rfl (by decide +kernel) (by decide +kernel) (by decide +kernel) (fun _ _ _ h=>h) (Or.inr ⟨by rfl,rfl⟩) hS1 ?_
       try simp only[Act.put,List.getElem_toArray,List.getElem_cons_succ,List.getElem_cons_zero,List.setIfInBounds_toArray,List.set_cons_zero,List.set_cons_succ]
       refine wpAnyH_take (i:=14) (v:=undef) rfl (by decide +kernel) (by decide +kernel) (by decide +kernel) (fun _ _ _ h=>h) (Or.inr ⟨by rfl,rfl⟩) hS1 ?_
       try simp only[Act.put,List.getElem_toArray,List.getElem_cons_succ,List.getElem_cons_zero,List.setIfInBounds_toArray,List.set_cons_zero,List.set_cons_succ]
       refine wpAnyH_take (i:=15) (v:=.bool false) rfl (by decide +kernel) (by decide +kernel) (by decide +kernel) (fun _ _ _ h=>h) (Or.inl ⟨by rfl,fun w' hS=>?_⟩) hS1 ?_
       ·go_simp
       try simp only[Act.put,List.getElem_toArray,List.getElem_cons_succ,List.getElem_cons_zero,List.setIfInBounds_toArray,List.set_cons_zero,List.set_cons_succ]
       refine wpAnyH_take (i:=16) (v:=.bool false) rfl (by decide +kernel) (by decide +kernel) (by decide +kernel) (fun _ _ _ h=>h) (Or.inl ⟨by rfl,fun w' hS=>?_⟩) hS1 ?_
       ·go_simp
       try simp only[Act.put,List.getElem_toArray,List.getElem_cons_succ,List.getElem_cons_zero,List.setIfInBounds_toArray,List.set_cons_zero,List.set_cons_succ]
       refine wpAnyH_done (by decide +kernel) ?_ _
       have E0:=Lib.hid (SH.out.next (Below.refl _ _).drew)
       clear hS0 hS1 tc
       have MC1:=Lib.hid (fun W1 (h1:Mk g fv F (u) W1)=>leaf7_m hF h1 (hBu.mono (by omega)) (isW_lt hw))
       go_wp2_with (
         (go_at_call 33
          with_reducible refine(MC1.out _ E0.out.m).mono ?_
          rintro e mw1 ⟨rfl,hz⟩
          have M1:=Lib.hid (E0.out.then hz)
          clear hz))
       refine⟨⟨_,_,rfl,hBu.gd hy.1,HS2.out,M1.out⟩,?_⟩
       rw[M1.out.m.pOf,HP.out]
       have:=hy.2
       have:=hy.1.N
       omega
    ·have hy:=gd_redir hb
     have hsm:Sm F T (redirP F u) b:=by
       rcases HS.out.w with ⟨h1,h2⟩|⟨h1,h2⟩
       ·exact⟨.inl ⟨h1,(simpP_r hBu.p hb).symm.trans h2⟩⟩
       ·exact⟨.inr ⟨h1,(simp1_r hBu.p hb).symm.trans h2⟩⟩
     have HS2:=Lib.hid hsm
     clear hsm
     have NC1:=Lib.hid (fun W1 (h1:Mk g fv F (u) W1)=>redirect_my hF h1 (hBu.mono (by omega)) hb)
     go_wp2_with (
       (go_at_call 111
        with_reducible refine(NC1.out _ U0.out.m).mono ?_
        rintro e nw1 ⟨rfl,hz⟩
        have N1:=Lib.hid (U0.out.then hz)
        clear hz))
     refine⟨⟨_,_,rfl,hBu.gd hy.1,HS2.out,N1.out⟩,?_⟩
     rw[N1.out.m.pOf,HP.out]
     have:=hy.2
     have:=hy.1.N
     omega
end Go.Proofs.YtlbfdbinaekjoaaGreatDoor
namespace Go.Proofs.YtlbfdbinaekjoaaGreatDoor
open Go.RowKit
set_option linter.unusedVariables false
set_option linter.unusedSimpArgs false
set_option maxRecDepth 100000
set_option maxHeartbeats 2000000 in
theorem define_m {g:Nat} {fv:Value} {F:List Lf} {L:Ps→Ps} {q:Nat} {s:Ps} {W:World} (hF:FB F) (hL:GL F L) (HL:ListC g fv F L q) (h:Mk g fv F s W) (hq:q≤s.p+1) (hB:Bd F 28 s) :
    Calls Tryz.prog 88 #[.pointer (some ⟨g,0,none⟩)] W fun e w'=>e=.returned (.tuple #[])∧Mz g fv F W (defP F L s) w':=by
  obtain⟨T,hT⟩:∃T,T=defP F L s:=⟨_,rfl⟩
  rw[←hT]
  have HT:=Lib.hid hT
  clear hT
  have hg1:=gd_word (F:=F) hB.p
  have hB1:=hB.gd hg1
  have hg2:=gd_take (F:=F) (cs:=[40]) (by decide) hB1.p
  have hB2:=hB1.gd hg2
  have hg3:=gd_want (F:=F) (c:=41) (by decide) hB2.p
  have hB3:=hB2.gd hg3
  have hg4:=gd_lines (F:=F) hB3.p
  have hB4:=hB3.gd hg4
  have hq4:q≤(linesP F (wantP F 41 (takeP F [40] (wordP F s)))).p+1:=Nat.le_trans hq (Nat.succ_le_succ (Nat.le_trans hg1.p (Nat.le_trans hg2.p (Nat.le_trans hg3.p hg4.p))))
  go_enter Tryz.func88,Tryz.ntmps88
  cases hb:compB F (linesP F (wantP F 41 (takeP F [40] (wordP F s))))
  ·have HC1:=Lib.hid (fun W1 (h1:Mk g fv F (s) W1)=>mword_m hF h1 (hB.mono (by omega)))
   have HC2:=Lib.hid (fun W1 (h1:Mk g fv F (wordP F s) W1)=>take_m hF h1 hB1.p [40] (by decide))
   have HC3:=Lib.hid (fun W1 (h1:Mk g fv F (takeP F [40] (wordP F s)) W1)=>want_m hF h1 (hB2.mono (by omega)) 41 (by decide))
   have HC4:=Lib.hid (fun W1 (h1:Mk g fv F (wantP F 41 (takeP F [40] (wordP F s))) W1)=>lines_m hF h1 hB3.p)
   have HC5:=Lib.hid (fun W1 (h1:Mk g fv F (linesP F (wantP F 41 (takeP F [40] (wordP F s)))) W1)=>compounds_mn hF h1 hB4.p hb)
   have HC6:=Lib.hid (fun W1 (h1:Mk g fv F (linesP F (wantP F 41 (takeP F [40] (wordP F s)))) W1)=>missing_m hF h1 (hB4.mono (by omega)))
   have H0:=Lib.hid (Mz.start h)
   clear h
   go_wp2_with (first
     | (go_at_call 113
        with_reducible refine(HC1.out _ H0.out.m).mono ?_
        rintro e hw1 ⟨rfl,hz⟩
        have H1:=Lib.hid (H0.out.then hz)
        clear hz)
     | (go_at_call 30
        with_reducible refine(HC2.out _ H1.out.m).mono ?_
        rintro e hw2 ⟨rfl,hz⟩
        have H2:=Lib.hid (H1.out.then hz)
        clear hz)
     | (go_at_call 114
        with_reducible refine(HC3.out _ H2.out.m).mono ?_
        rintro e hw3 ⟨rfl,hz⟩
        have H3:=Lib.hid (H2.out.then hz)
        clear hz)
     | (go_at_call 52
        with_reducible refine(HC4.out _ H3.out.m).mono ?_
        rintro e hw4 ⟨rfl,hz⟩
        have H4:=Lib.hid (H3.out.then hz)
        clear hz)
     | (go_at_call 59
        with_reducible refine(HC5.out _ H4.out.m).mono ?_
        rintro e hw5 ⟨rfl,hz⟩
        have H5:=Lib.hid (H4.out.then hz)
        clear hz)
     | (go_at_call 67
        with_reducible refine(HC6.out _ H5.out.m).mono ?_
        rintro e hw6 ⟨rfl,hz⟩
        have H6:=Lib.hid (H5.out.then hz)
        clear hz)
     | fail)
   first|go_end0|refine bodyPost_ret (results_none rfl _ _ _) rfl ?_
   refine⟨rfl,?_⟩
   rw[HT.out]
   unfold defP
   simp only
   rw[if_neg (by rw[hb];decide)]
   exact H6.out
  ·have HC1:=Lib.hid (fun W1 (h1:Mk g fv F (s) W1)=>mword_m hF h1 (hB.mono (by omega)))
   have HC2:=Lib.hid (fun W1 (h1:Mk g fv F (wordP F s) W1)=>take_m hF h1 hB1.p [40] (by decide))
   have HC3:=Lib.hid (fun W1 (h1:Mk g fv F (takeP F [40] (wordP F s)) W1)=>want_m hF h1 (hB2.mono (by omega)) 41 (by decide))
   have HC4:=Lib.hid (fun W1 (h1:Mk g fv F (wantP F 41 (takeP F [40] (wordP F s))) W1)=>lines_m hF h1 hB3.p)
   have HC5:=Lib.hid (fun W1 (h1:Mk g fv F (linesP F (wantP F 41 (takeP F [40] (wordP F s)))) W1)=>compounds_my hF h1 hB4.p hb)
   have HC6:=Lib.hid (fun W1 (h1:Mk g fv F (linesP F (wantP F 41 (takeP F [40] (wordP F s)))) W1)=>compound_m hF hL HL h1 hq4 (hB4.mono (by omega)) hb)
   have H0:=Lib.hid (Mz.start h)
   clear h
   go_wp2_with (first
     | (go_at_call 113
        with_reducible refine(HC1.out _ H0.out.m).mono ?_
        rintro e hw1 ⟨rfl,hz⟩
        have H1:=Lib.hid (H0.out.then hz)
        clear hz)
     | (go_at_call 30
        with_reducible refine(HC2.out _ H1.out.m).mono ?_
        rintro e hw2 ⟨rfl,hz⟩
        have H2:=Lib.hid (H1.out.then hz)
        clear hz)
     | (go_at_call 114
        with_reducible refine(HC3.out _ H2.out.m).mono ?_
        rintro e hw3 ⟨rfl,hz⟩
        have H3:=Lib.hid (H2.out.then hz)
        clear hz)
     | (go_at_call 52
        with_reducible refine(HC4.out _ H3.out.m).mono ?_
        rintro e hw4 ⟨rfl,hz⟩
        have H4:=Lib.hid (H3.out.then hz)
        clear hz)
     | (go_at_call 59
        with_reducible refine(HC5.out _ H4.out.m).mono ?_
        rintro e hw5 ⟨rfl,hz⟩
        have H5:=Lib.hid (H4.out.then hz)
        clear hz)
     | (go_at_call 85
        with_reducible refine(HC6.out _ H5.out.m).mono ?_
        rintro e hw6 ⟨rfl,hz⟩
        have H6:=Lib.hid (H5.out.then hz)
        clear hz)
     | fail)
   first|go_end0|refine bodyPost_ret (results_none rfl _ _ _) rfl ?_
   refine⟨rfl,?_⟩
   rw[HT.out]
   unfold defP
   simp only
   rw[if_pos hb]
   exact H6.out
theorem nodeD_m {g:Nat} {fv:Value} {F:List Lf} {L:Ps→Ps} {q:Nat} {s:Ps} {W:World} (hF:FB F) (hL:GL F L) (HL:ListC g fv F L q) (h:Mk g fv F s W) (hq:q≤s.p+1) (hB:Bd F 26 s) (hf:funB F s=true) :
    Calls Tryz.prog 87 #[.pointer (some ⟨g,0,none⟩),.int .i64 16,.func (.func 88) #[.pointer (some ⟨g,0,none⟩)] #[]] W fun e w'=>e=.returned (.tuple #[])∧Mz g fv F W (nestP 16 (defP F L) s) w':=by
  have hx:sg F s.p=120∧s.deep<200:=by unfold funB at hf;simp at hf;exact⟨hf.1,hf.2.2.1⟩
  have hi:Bd F 27 (inN 16 {s with deep:=s.deep+1}):=⟨hB.p,by have:=hB.l;show (s.l++[_]).length≤46*s.p+27;rw[List.length_append];show s.l.length+1≤_;omega,by show s.deep+1≤200;omega⟩
  have hg:=(gd_def hL (s:=inN 16 {s with deep:=s.deep+1}) hx.1).1
  have hn:=hF.n
  have h1:=hg.l
  have h2:=hg.N
  have h3:=hg.dp
  have l1:(inN 16 {s with deep:=s.deep+1}).l.length=s.l.length+1:=by show (s.l++[_]).length=_;simp
  exact nested_m (s:=s) (t:=defP F L (inN 16 {s with deep:=s.deep+1})) 16 _ #[.pointer (some ⟨g,0,none⟩)] #[] h (hB.l5 hF (by omega)) (by omega) (by omega) (enters_of Tryz.func88 (by kernel_rfl) rfl)
    (fun W1 z1=>define_m hF hL HL z1.m hq (hi.mono (by omega))) (by omega) (by omega) (h3.trans rfl)
theorem nodeS_m {g:Nat} {fv:Value} {F:List Lf} {s:Ps} {W:World} (hF:FB F) (h:Mk g fv F s W) (hB:Bd F 26 s) :
    Calls Tryz.prog 14 #[.pointer (some ⟨g,0,none⟩),.int .i64 5,.func (.func 89) #[.pointer (some ⟨g,0,none⟩)] #[]] W fun e w'=>e=.returned (.tuple #[])∧Mz g fv F W (nodeP 5 (simpP F) s) w':=by
  have hi:=hB.inn 5
  have hg:=gd_simp (F:=F) hi.p
  have hn:=hF.n
  have h1:=hg.l
  have h2:=hg.N
  rw[inN_len] at h1
  exact node_v (t:=simpP F (inN 5 s)) 5 _ h (hB.l5 hF (by omega)) (by omega) (enters_of Tryz.func89 (by kernel_rfl) rfl) (fun W1 z1=>simple_m hF z1.m hi) (by omega) (by omega)
set_option maxHeartbeats 2000000 in
theorem command_m {g:Nat} {fv:Value} {F:List Lf} {L:Ps→Ps} {q:Nat} {s:Ps} {W:World} (hF:FB F) (hL:GL F L) (HL:ListC g fv F L q) (h:Mk g fv F s W) (hq:q≤s.p+1) (hB:Bd F 26 s) :
    Calls Tryz.prog 69 #[.pointer (some ⟨g,0,none⟩)] W fun e w'=>e=.returned (.tuple #[])∧Mz g fv F W (comP F L s) w':=by
  obtain⟨T,hT⟩:∃T,T=comP F L s:=⟨_,rfl⟩
  rw[←hT]
  have HT:=Lib.hid hT
  clear hT
  go_enter Tryz.func69,Tryz.ntmps69
  cases hb:compB F s
  ·cases hf:funB F s
   ·cases hc:cmdB F s
    ·have HC1:=Lib.hid (fun W1 (h1:Mk g fv F (s) W1)=>compounds_mn hF h1 hB.p hb)
     have HC2:=Lib.hid (fun W1 (h1:Mk g fv F (s) W1)=>function_mn hF h1 hB.p hf)
     have HC3:=Lib.hid (fun W1 (h1:Mk g fv F (s) W1)=>commands_mn hF h1 hB.p hc)
     have HC4:=Lib.hid (fun W1 (h1:Mk g fv F (s) W1)=>missing_m hF h1 (hB.mono (by omega)))
     have H0:=Lib.hid (Mz.start h)
     clear h
     go_wp2_with (first
       | (go_at_call 59
          with_reducible refine(HC1.out _ H0.out.m).mono ?_
          rintro e hw1 ⟨rfl,hz⟩
          have H1:=Lib.hid (H0.out.then hz)
          clear hz)
       | (go_at_call 86
          with_reducible refine(HC2.out _ H1.out.m).mono ?_
          rintro e hw2 ⟨rfl,hz⟩
          have H2:=Lib.hid (H1.out.then hz)
          clear hz)
       | (go_at_call 50
          with_reducible refine(HC3.out _ H2.out.m).mono ?_
          rintro e hw3 ⟨rfl,hz⟩
          have H3:=Lib.hid (H2.out.then hz)
          clear hz)
       | (go_at_call 67
          with_reducible refine(HC4.out _ H3.out.m).mono ?_
          rintro e hw4 ⟨rfl,hz⟩
          have H4:=Lib.hid (H3.out.then hz)
          clear hz)
       | fail)
     first|go_end0|refine bodyPost_ret (results_none rfl _ _ _) rfl ?_
     refine⟨rfl,?_⟩
     rw[HT.out]
     unfold comP
     rw[if_neg (by rw[hb];decide),if_neg (by rw[hf];decide),if_neg (by rw[hc];decide)]
     exact H4.out
    ·have HC1:=Lib.hid (fun W1 (h1:Mk g fv F (s) W1)=>compounds_mn hF h1 hB.p hb)
     have HC2:=Lib.hid (fun W1 (h1:Mk g fv F (s) W1)=>function_mn hF h1 hB.p hf)
     have HC3:=Lib.hid (fun W1 (h1:Mk g fv F (s) W1)=>commands_my hF h1 hB.p hc)
     have HC4:=Lib.hid (fun W1 (h1:Mk g fv F (s) W1)=>nodeS_m hF h1 hB)
     have H0:=Lib.hid (Mz.start h)
     clear h
     go_wp2_with (first
       | (go_at_call 59
          with_reducible refine(HC1.out _ H0.out.m).mono ?_
          rintro e hw1 ⟨rfl,hz⟩
          have H1:=Lib.hid (H0.out.then hz)
          clear hz)
       | (go_at_call 86
          with_reducible refine(HC2.out _ H1.out.m).mono ?_
          rintro e hw2 ⟨rfl,hz⟩
          have H2:=Lib.hid (H1.out.then hz)
          clear hz)
       | (go_at_call 50
          with_reducible refine(HC3.out _ H2.out.m).mono ?_
          rintro e hw3 ⟨rfl,hz⟩
          have H3:=Lib.hid (H2.out.then hz)
          clear hz)
       | (go_at_call 14
          with_reducible refine(HC4.out _ H3.out.m).mono ?_
          rintro e hw4 ⟨rfl,hz⟩
          have H4:=Lib.hid (H3.out.then hz)
          clear hz)
       | fail)
     first|go_end0|refine bodyPost_ret (results_none rfl _ _ _) rfl ?_
     refine⟨rfl,?_⟩
     rw[HT.out]
     unfold comP
     rw[if_neg (by rw[hb];decide),if_neg (by rw[hf];decide),if_pos hc]
     exact H4.out
   ·have HC1:=Lib.hid (fun W1 (h1:Mk g fv F (s) W1)=>compounds_mn hF h1 hB.p hb)
    have HC2:=Lib.hid (fun W1 (h1:Mk g fv F (s) W1)=>function_my hF h1 hB.p hf)
    have HC3:=Lib.hid (fun W1 (h1:Mk g fv F (s) W1)=>nodeD_m hF hL HL h1 hq hB hf)
    have H0:=Lib.hid (Mz.start h)
    clear h
    go_wp2_with (first
      | (go_at_call 59
         with_reducible refine(HC1.out _ H0.out.m).mono ?_
         rintro e hw1 ⟨rfl,hz⟩
         have H1:=Lib.hid (H0.out.then hz)
         clear hz)
      | (go_at_call 86
         with_reducible refine(HC2.out _ H1.out.m).mono ?_
         rintro e hw2 ⟨rfl,hz⟩
         have H2:=Lib.hid (H1.out.then hz)
         clear hz)
      | (go_at_call 87
         with_reducible refine(HC3.out _ H2.out.m).mono ?_
         rintro e hw3 ⟨rfl,hz⟩
         have H3:=Lib.hid (H2.out.then hz)
         clear hz)
      | fail)
    first|go_end0|refine bodyPost_ret (results_none rfl _ _ _) rfl ?_
    refine⟨rfl,?_⟩
    rw[HT.out]
    unfold comP
    rw[if_neg (by rw[hb];decide),if_pos hf]
    exact H3.out
  ·have HC1:=Lib.hid (fun W1 (h1:Mk g fv F (s) W1)=>compounds_my hF h1 hB.p hb)
   have HC2:=Lib.hid (fun W1 (h1:Mk g fv F (s) W1)=>compound_m hF hL HL h1 hq (hB.mono (by omega)) hb)
   have H0:=Lib.hid (Mz.start h)
   clear h
   go_wp2_with (first
     | (go_at_call 59
        with_reducible refine(HC1.out _ H0.out.m).mono ?_
        rintro e hw1 ⟨rfl,hz⟩
        have H1:=Lib.hid (H0.out.then hz)
        clear hz)
     | (go_at_call 85
        with_reducible refine(HC2.out _ H1.out.m).mono ?_
        rintro e hw2 ⟨rfl,hz⟩
        have H2:=Lib.hid (H1.out.then hz)
        clear hz)
     | fail)
   first|go_end0|refine bodyPost_ret (results_none rfl _ _ _) rfl ?_
   refine⟨rfl,?_⟩
   rw[HT.out]
   unfold comP
   rw[if_pos hb]
   exact H2.out
set_option maxHeartbeats 1000000 in
theorem pipe1_m {g bx:Nat} {fv:Value} {F:List Lf} {L:Ps→Ps} {q:Nat} {s:Ps} {W:World} (hF:FB F) (hL:GL F L) (HL:ListC g fv F L q) (h:Mk g fv F s W) (hq:q≤s.p+1) (hB:Bd F 25 s) (hb0:Bk W bx 40 #[.pointer (some ⟨g,0,none⟩)]) :
    Calls Tryz.prog 68 #[.pointer (some ⟨bx,0,none⟩)] W fun e w'=>e=.returned (.tuple #[])∧Mz g fv F W (pipInP F L s) w':=by
  obtain⟨T,hT⟩:∃T,T=pipInP F L s:=⟨_,rfl⟩
  rw[←hT]
  have HT:=Lib.hid hT
  clear hT
  have hg1:=gd_take (F:=F) (cs:=[33]) (by decide) hB.p
  have hB1:=hB.gd hg1
  have hq1:q≤(takeP F [33] s).p+1:=Nat.le_trans hq (Nat.succ_le_succ hg1.p)
  have hg2:=gd_com hL hB1.p
  have hB2:=hB1.gd hg2
  have hq2:q≤(comP F L (takeP F [33] s)).p+1:=Nat.le_trans hq1 (Nat.succ_le_succ hg2.p)
  have HBX:=Lib.hid hb0
  clear hb0
  have b0:=HBX.out.cell 0
  have HC1:=Lib.hid (fun W1 (h1:Mk g fv F (s) W1)=>take_m hF h1 hB.p [33] (by decide))
  have HC2:=Lib.hid (fun W1 (h1:Mk g fv F (takeP F [33] s) W1)=>command_m hF hL HL h1 hq1 (hB1.mono (by omega)))
  have H0:=Lib.hid (Mz.start h)
  clear h
  go_enter Tryz.func68,Tryz.ntmps68
  go_wp2_with (first
    | (go_at_call 30
       with_reducible refine(HC1.out _ H0.out.m).mono ?_
       rintro e hw1 ⟨rfl,hz⟩
       have H1:=Lib.hid (H0.out.then hz)
       have b0:=(Bk.kt HBX.out H1.out.f.kt (by decide)).cell 0
       clear hz)
    | (go_at_call 69
       with_reducible refine(HC2.out _ H1.out.m).mono ?_
       rintro e hw2 ⟨rfl,hz⟩
       have H2:=Lib.hid (H1.out.then hz)
       have b0:=(Bk.kt HBX.out H2.out.f.kt (by decide)).cell 0
       clear hz)
    | fail)
  go_loopw [] (fun wr=>∃u:Ps,q≤u.p+1∧Bd F 26 u∧(loopP F.length (fun s=>if comes F [124] s=true then (comP F L (linesP F (nextP s)),true) else (s,false))) u=(loopP F.length (fun s=>if comes F [124] s=true then (comP F L (linesP F (nextP s)),true) else (s,false))) (comP F L (takeP F [33] s))∧Mz g fv F W u wr) (fun wr=>F.length-pOf g wr)
  case atStart=>exact⟨_,hq2,hB2,rfl,H2.out⟩
  case round=>
    obtain⟨u,hqu,hBu,hlu,hz⟩:=hrel
    have U0:=Lib.hid hz
    have HU:=Lib.hid hlu
    have hup:=hz.m.pOf
    have HP:=Lib.hid hup
    clear hz hlu hup
    cases hb:comes F [124] u
    ·have HE:=Lib.hid (HU.out.symm.trans (LC.stepn (pipIn_c hL) hBu.p (t:=u) (by show (if _ then _ else _)=_;rw[if_neg (by rw[hb];decide)])))
     have NC1:=Lib.hid (fun W1 (h1:Mk g fv F (u) W1)=>take_mn hF h1 hBu.p [124] (by decide) hb)
     have b0:=(Bk.kt HBX.out U0.out.f.kt (by decide)).cell 0
     go_wp2_with (
       (go_at_call 30
        with_reducible refine(NC1.out _ U0.out.m).mono ?_
        rintro e nw1 ⟨rfl,hz⟩
        have N1:=Lib.hid (U0.out.then hz)
        have b0:=(Bk.kt HBX.out N1.out.f.kt (by decide)).cell 0
        clear hz))
     first|go_end0|refine bodyPost_ret (results_none rfl _ _ _) rfl ?_
     refine⟨rfl,?_⟩
     rw[HT.out]
     unfold pipInP
     rw[HE.out]
     exact N1.out
    ·have hy:=LC.y ((pipIn_c hL) u hBu.p) (t:=comP F L (linesP F (nextP u))) (by show (if _ then _ else _)=_;rw[if_pos hb])
     have HE:=Lib.hid ((LC.stepy (pipIn_c hL) hBu.p (t:=comP F L (linesP F (nextP u))) (by show (if _ then _ else _)=_;rw[if_pos hb])).symm.trans HU.out)
     have hlt:=comes_lt hb (by decide)
     have hn1:=hBu.next hlt (by omega)
     have hg4:=gd_lines (F:=F) hn1.p
     have hB4:=hn1.gd hg4
     have hq4:q≤(linesP F (nextP u)).p+1:=Nat.le_trans hqu (Nat.succ_le_succ (Nat.le_trans (Nat.le_succ _) hg4.p))
     have YC1:=Lib.hid (fun W1 (h1:Mk g fv F (u) W1)=>take_my hF h1 hBu.p [124] (by decide) hb)
     have YC2:=Lib.hid (fun W1 (h1:Mk g fv F (nextP u) W1)=>lines_m hF h1 hn1.p)
     have YC3:=Lib.hid (fun W1 (h1:Mk g fv F (linesP F (nextP u)) W1)=>command_m hF hL HL h1 hq4 (hB4.mono (by omega)))
     have b0:=(Bk.kt HBX.out U0.out.f.kt (by decide)).cell 0
     go_wp2_with (first
       | (go_at_call 30
          with_reducible refine(YC1.out _ U0.out.m).mono ?_
          rintro e yw1 ⟨rfl,hz⟩
          have Y1:=Lib.hid (U0.out.then hz)
          have b0:=(Bk.kt HBX.out Y1.out.f.kt (by decide)).cell 0
          clear hz)
       | (go_at_call 52
          with_reducible refine(YC2.out _ Y1.out.m).mono ?_
          rintro e yw2 ⟨rfl,hz⟩
          have Y2:=Lib.hid (Y1.out.then hz)
          have b0:=(Bk.kt HBX.out Y2.out.f.kt (by decide)).cell 0
          clear hz)
       | (go_at_call 69
          with_reducible refine(YC3.out _ Y2.out.m).mono ?_
          rintro e yw3 ⟨rfl,hz⟩
          have Y3:=Lib.hid (Y2.out.then hz)
          have b0:=(Bk.kt HBX.out Y3.out.f.kt (by decide)).cell 0
          clear hz)
       | fail)
     refine⟨⟨_,Nat.le_trans hqu (Nat.succ_le_succ (Nat.le_of_lt hy.2)),hBu.gd hy.1,HE.out,Y3.out⟩,?_⟩
     rw[Y3.out.m.pOf,HP.out]
     have:=hy.2
     have:=hy.1.N
     omega
set_option maxHeartbeats 2000000 in
theorem pipe_m {g:Nat} {fv:Value} {F:List Lf} {L:Ps→Ps} {q:Nat} {s:Ps} {W:World} (hF:FB F) (hL:GL F L) (HL:ListC g fv F L q) (h:Mk g fv F s W) (hq:q≤s.p+1) (hB:Bd F 24 s) :
    Calls Tryz.prog 60 #[.pointer (some ⟨g,0,none⟩)] W fun e w'=>e=.returned (.tuple #[])∧Mz g fv F W (pipP F L s) w':=by
  have hx:∀W0,Mk g fv F s W0→∀bx,Bk W0 bx 40 #[.pointer (some ⟨g,0,none⟩)]→Calls Tryz.prog 14 #[.pointer (some ⟨g,0,none⟩),.int .i64 4,.func (.func 68) #[] #[.pointer (some ⟨bx,0,none⟩)]] W0 fun e w'=>e=.returned (.tuple #[])∧Mz g fv F W0 (nodeP 4 (pipInP F L) s) w':=fun W0 h0 bx hbx=>by
    have hi:=hB.inn 4
    have hg:=gd_pipIn hL hi.p
    have hn:=hF.n
    have h1:=hg.l
    have h2:=hg.N
    rw[inN_len] at h1
    exact node_m (t:=pipInP F L (inN 4 s)) 4 _ #[] #[.pointer (some ⟨bx,0,none⟩)] h0 (hB.l5 hF (by omega)) (by omega) (enters_of Tryz.func68 (by kernel_rfl) rfl) (fun W1 h1=>pipe1_m hF hL HL h1.m hq hi (h1.box hbx (by decide))) (by omega) (by omega)
  have HX:=Lib.hid hx
  have H0:=Lib.hid (Mz.start h)
  clear hx
  obtain⟨T,hT⟩:∃T,T=pipP F L s:=⟨_,rfl⟩
  rw[←hT]
  have HT:=Lib.hid hT
  clear hT
  cases hb:pipeB F s
  ·have HC1:=Lib.hid (fun W1 (h1:Mk g fv F s W1)=>pipes_mn hF h1 hB.p hb)
   have HC2:=Lib.hid (fun W1 (h1:Mk g fv F s W1)=>missing_m hF h1 (hB.mono (by omega)))
   clear h
   go_enter Tryz.func60,Tryz.ntmps60
   go_upto_region 1 with fail
   refine gen1 fun W0 hb0 k0 hs0=>?_
   have HBX:=Lib.hid k0
   have b0:=HBX.out.cell 0
   have H1:=Lib.hid (H0.out.next hb0)
   have HZ:=Lib.hid (Mz.start H1.out.m)
   clear hb0 k0 hs0
   go_wp2_with (first
     | (go_at_call 31
        with_reducible refine(HC1.out _ HZ.out.m).mono ?_
        rintro e w1 ⟨rfl,hz⟩
        have H2:=Lib.hid (HZ.out.then hz)
        have b0:=(Bk.kt HBX.out H2.out.f.kt (by decide)).cell 0
        clear hz)
     | (go_at_call 67
        with_reducible refine(HC2.out _ H2.out.m).mono ?_
        rintro e w2 ⟨rfl,hz⟩
        have H3:=Lib.hid (H2.out.then hz)
        clear hz)
     | fail)
   first|go_end0|refine bodyPost_ret (results_none rfl _ _ _) rfl ?_
   refine⟨rfl,?_⟩
   rw[HT.out]
   unfold pipP
   rw[if_neg (by rw[hb];decide)]
   exact H1.out.then H3.out
  ·have HC1:=Lib.hid (fun W1 (h1:Mk g fv F s W1)=>pipes_my hF h1 hB.p hb)
   have HC2:=Lib.hid (fun W1 (h1:Mk g fv F s W1)=>missing_m hF h1 (hB.mono (by omega)))
   clear h
   go_enter Tryz.func60,Tryz.ntmps60
   go_upto_region 1 with fail
   refine gen1 fun W0 hb0 k0 hs0=>?_
   have HBX:=Lib.hid k0
   have b0:=HBX.out.cell 0
   have H1:=Lib.hid (H0.out.next hb0)
   have HZ:=Lib.hid (Mz.start H1.out.m)
   clear hb0 k0 hs0
   go_wp2_with (first
     | (go_at_call 31
        with_reducible refine(HC1.out _ HZ.out.m).mono ?_
        rintro e w1 ⟨rfl,hz⟩
        have H2:=Lib.hid (HZ.out.then hz)
        have b0:=(Bk.kt HBX.out H2.out.f.kt (by decide)).cell 0
        clear hz)
     | (go_at_call 14
        refine(HX.out _ H2.out.m _ (Bk.kt HBX.out H2.out.f.kt (by decide))).mono ?_
        rintro e w2 ⟨rfl,hz⟩
        have H3:=Lib.hid (H2.out.then hz)
        clear hz)
     | fail)
   first|go_end0|refine bodyPost_ret (results_none rfl _ _ _) rfl ?_
   refine⟨rfl,?_⟩
   rw[HT.out]
   unfold pipP
   rw[if_pos hb]
   exact H1.out.then H3.out
set_option maxHeartbeats 1000000 in
theorem andor_m {g:Nat} {fv:Value} {F:List Lf} {L:Ps→Ps} {q:Nat} {s:Ps} {W:World} (hF:FB F) (hL:GL F L) (HL:ListC g fv F L q) (h:Mk g fv F s W) (hq:q≤s.p+1) (hB:Bd F 24 s) :
    Calls Tryz.prog 51 #[.pointer (some ⟨g,0,none⟩)] W fun e w'=>e=.returned (.tuple #[])∧Mz g fv F W (andP F L s) w':=by
  obtain⟨T,hT⟩:∃T,T=andP F L s:=⟨_,rfl⟩
  rw[←hT]
  have HT:=Lib.hid hT
  clear hT
  have hg2:=gd_pip hL hB.p
  have hB2:=hB.gd hg2
  have hq2:q≤(pipP F L s).p+1:=Nat.le_trans hq (Nat.succ_le_succ hg2.p)
  have HC1:=Lib.hid (fun W1 (h1:Mk g fv F (s) W1)=>pipe_m hF hL HL h1 hq hB)
  have H0:=Lib.hid (Mz.start h)
  clear h
  go_enter Tryz.func51,Tryz.ntmps51
  go_wp2_with (
    (go_at_call 60
     with_reducible refine(HC1.out _ H0.out.m).mono ?_
     rintro e hw1 ⟨rfl,hz⟩
     have H1:=Lib.hid (H0.out.then hz)
     clear hz))
  go_loopw [] (fun wr=>∃u:Ps,q≤u.p+1∧Bd F 26 u∧(loopP F.length (fun s=>if comes F [97,111] s=true then (pipP F L (linesP F (nextP s)),true) else (s,false))) u=(loopP F.length (fun s=>if comes F [97,111] s=true then (pipP F L (linesP F (nextP s)),true) else (s,false))) (pipP F L s)∧Mz g fv F W u wr) (fun wr=>F.length-pOf g wr)
  case atStart=>exact⟨_,hq2,hB2,rfl,H1.out⟩
  case round=>
    obtain⟨u,hqu,hBu,hlu,hz⟩:=hrel
    have U0:=Lib.hid hz
    have HU:=Lib.hid hlu
    have hup:=hz.m.pOf
    have HP:=Lib.hid hup
    clear hz hlu hup
    cases hb:comes F [97,111] u
    ·have HE:=Lib.hid (HU.out.symm.trans (LC.stepn (and_c hL) hBu.p (t:=u) (by show (if _ then _ else _)=_;rw[if_neg (by rw[hb];decide)])))
     have NC1:=Lib.hid (fun W1 (h1:Mk g fv F (u) W1)=>take_mn hF h1 hBu.p [97,111] (by decide) hb)
     go_wp2_with (
       (go_at_call 30
        with_reducible refine(NC1.out _ U0.out.m).mono ?_
        rintro e nw1 ⟨rfl,hz⟩
        have N1:=Lib.hid (U0.out.then hz)
        clear hz))
     first|go_end0|refine bodyPost_ret (results_none rfl _ _ _) rfl ?_
     refine⟨rfl,?_⟩
     rw[HT.out]
     unfold andP
     rw[HE.out]
     exact N1.out
    ·have hy:=LC.y ((and_c hL) u hBu.p) (t:=pipP F L (linesP F (nextP u))) (by show (if _ then _ else _)=_;rw[if_pos hb])
     have HE:=Lib.hid ((LC.stepy (and_c hL) hBu.p (t:=pipP F L (linesP F (nextP u))) (by show (if _ then _ else _)=_;rw[if_pos hb])).symm.trans HU.out)
     have hlt:=comes_lt hb (by decide)
     have hn1:=hBu.next hlt (by omega)
     have hg4:=gd_lines (F:=F) hn1.p
     have hB4:=hn1.gd hg4
     have hq4:q≤(linesP F (nextP u)).p+1:=Nat.le_trans hqu (Nat.succ_le_succ (Nat.le_trans (Nat.le_succ _) hg4.p))
     have YC1:=Lib.hid (fun W1 (h1:Mk g fv F (u) W1)=>take_my hF h1 hBu.p [97,111] (by decide) hb)
     have YC2:=Lib.hid (fun W1 (h1:Mk g fv F (nextP u) W1)=>lines_m hF h1 hn1.p)
     have YC3:=Lib.hid (fun W1 (h1:Mk g fv F (linesP F (nextP u)) W1)=>pipe_m hF hL HL h1 hq4 (hB4.mono (by omega)))
     go_wp2_with (first
       | (go_at_call 30
          with_reducible refine(YC1.out _ U0.out.m).mono ?_
          rintro e yw1 ⟨rfl,hz⟩
          have Y1:=Lib.hid (U0.out.then hz)
          clear hz)
       | (go_at_call 52
          with_reducible refine(YC2.out _ Y1.out.m).mono ?_
          rintro e yw2 ⟨rfl,hz⟩
          have Y2:=Lib.hid (Y1.out.then hz)
          clear hz)
       | (go_at_call 60
          with_reducible refine(YC3.out _ Y2.out.m).mono ?_
          rintro e yw3 ⟨rfl,hz⟩
          have Y3:=Lib.hid (Y2.out.then hz)
          clear hz)
       | fail)
     refine⟨⟨_,Nat.le_trans hqu (Nat.succ_le_succ (Nat.le_of_lt hy.2)),hBu.gd hy.1,HE.out,Y3.out⟩,?_⟩
     rw[Y3.out.m.pOf,HP.out]
     have:=hy.2
     have:=hy.1.N
     omega
end Go.Proofs.YtlbfdbinaekjoaaGreatDoor
