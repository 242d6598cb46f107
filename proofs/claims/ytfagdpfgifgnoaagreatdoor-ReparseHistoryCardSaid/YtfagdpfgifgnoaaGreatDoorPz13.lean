/- The parser: compounds. -/
import Derived.Test.YtfagdpfgifgnoaaGreatDoorPw13
import Derived.Laws.EntriesVeiled
set_option linter.unusedVariables false
set_option linter.unusedSimpArgs false
set_option maxRecDepth 100000
set_option maxHeartbeats 8000000
namespace Go.Proofs.YtfagdpfgifgnoaaGreatDoor
open Go.RowKit
variable {cs ds:Array Value} {F:List Lf} {a b g q bx by_ fX k:Nat} {u s:Ps} {L X:Ps→Ps} {t ty:TypeId} {fv v:Value} {w W W1:World}
theorem Es {u:TypeId} (h:Bk w a t cs) (k:Bk w b u ds) (hne:t≠u):a≠b:=by
  rintro rfl;unfold Bk at h k;rw[h] at k;injection k with k
  injection k with _ k
  exact hne k
theorem Mz.setNew (h:Mz g fv F W s W1) (hk:Bk W1 b ty cs) (hb:W.heap.size≤b) (hg:g≤b) (ht:ty∉[103,49]) (hl:61≠ty) :
    Mz g fv F W s (W1.setCell ⟨b,0,none⟩ v):=by
  obtain⟨lv,h1,h2⟩:=h.m.w;have e1:103≠ty:=fun e=>ht (by rw[←e];simp)
  have e2:49≠ty:=fun e=>ht (by rw[←e];simp)
  have hne:g≠b:=Es h1 hk e1;refine⟨⟨⟨lv,h1.far (p:=⟨b,0,none⟩) hne v,aT h2 (aL h2 hk e2) v⟩,h.m.f.keep ((Below.refl g W1).setCell (p:=⟨b,0,none⟩) hg v) (Nat.le_refl _)⟩,⟨h.f.hb.setCell (p:=⟨b,0,none⟩) hg v,fun k o hk1 ho=>?_⟩⟩;have h3:=(Array.getElem?_eq_some_iff.1 hk1).1
  exact(Below.heap_setCell _ _ _ k (by show k≠b;omega)).trans (h.f.kt k o hk1 ho)
theorem zB (hF:FB F) (hL:GL F L) (HL:cJ g fv F L q) (h:Mk g fv F s W) (hq:q≤s.p) (hB:Bd F 0 s) :
    f9 189 g fv F W (.tuple #[]) (cG F L s):=by
  cases hw:dW F s.p
  ·exact Cw hF hL HL h hq hB hw
  ·cases hn:eC (tx F s.p)
   ·exact Cv hF hL HL h hq hB hw hn
   ·exact Cu hF hL HL h hq hB hw hn
theorem fE (hF:FB F) (h:Mk g fv F s W) (hs:s.p<F.length) (hB:Bd F 30 s) (hd:s.deep<200) (hk:k≤18) (hb:Bk W bx 101 #[.pointer (some ⟨g,0,none⟩)]) (hm:Bk W by_ 1 #[.func (.func fX) #[.pointer (some ⟨g,0,none⟩)] #[]]) (eg:∀args w,(callFunc fX args).run Tryz.prog w=.ok (.enter fX args) w) (hg:∀t:Ps,t.p≤F.length→Gd F.length 14 t (X t)) (hX:∀(t:Ps) W1,t.p=s.p+1→Bd F 0 t→Mk g fv F t W1→Calls Tryz.prog fX #[.pointer (some ⟨g,0,none⟩)] W1 fun e w'=>e=.returned (.tuple #[])∧Mz g fv F W1 (X t) w') :
    Calls Tryz.prog 159 #[.pointer (some ⟨g,0,none⟩),.int .i64 (k:Int),.func (.func 191) #[] #[.pointer (some ⟨bx,0,none⟩),.pointer (some ⟨by_,0,none⟩)]] W fun e w'=>e=.returned (.tuple #[])∧Mz g fv F W (gL k (fun t=>cI F (X (ai t))) s) w':=by
  have hi:Bd F 31 (ma k {s with deep:=s.deep+1}):=⟨hB.p,by have:=hB.l;show (s.l++[_]).length≤46*s.p+31;rw[List.length_append];show s.l.length+1≤_;omega,by show s.deep+1≤200;omega⟩;have hn:=hi.next hs (by omega);have g1:=hg _ hn.p;have hB1:=hn.gd g1;have g2:=jr (F:=F) hB1.p;have hN:=hF.n;have l1:(ai (ma k {s with deep:=s.deep+1})).l.length=s.l.length+1:=by show (s.l++[_]).length=_;simp
  have h1:=g1.l;have h2:=g2.l;have h3:=g2.N;have h4:=g2.dp;have h5:=g1.dp
  exact rI (s:=s) (t:=cI F (X (ai (ma k {s with deep:=s.deep+1})))) k _ #[] #[.pointer (some ⟨bx,0,none⟩),.pointer (some ⟨by_,0,none⟩)] h (hB.l5 hF (by omega)) hk (by omega)
    (enters_of Tryz.func191 (by kernel_rfl) rfl)
    (fun W1 z1=>sq (s:=ma k {s with deep:=s.deep+1}) hF z1.m hs (hB1.mono (by omega)) (z1.box hb (by decide)) (z1.box hm (by decide)) eg (fun W2 z2=>hX _ _ rfl hn z2)) (by omega) (by omega) (h4.trans (h5.trans rfl))
theorem Cz (hF:FB F) (hL:GL F L) (HL:cJ g fv F L q) (h:Mk g fv F s W) (hq:q≤s.p+1) (hB:Bd F 30 s) (hb:cH F s=true) (hc:sg F s.p=123) :
    f9 157 g fv F W (.tuple #[]) (cT F L s):=by
  have hs:=dO hb;have hd:s.deep<200:=by
    unfold cH at hb;rw[Bool.and_eq_true] at hb;exact of_decide_eq_true hb.1
  have hT:cT F L s=gL 9 (fun t=>cI F ((fun t=>aI F 125 (aF F L t)) (ai t))) s:=by
    unfold cT;rw[hc];rfl
  rw[hT];clear hT;have hgX:∀t:Ps,t.p≤F.length→Gd F.length 14 t (aI F 125 (aF F L t)):=fun t ht=>iZ hL 123 ht
  have hmix:Tryz.prog.follows .mixedOrders=true:=by kernel_rfl
  have HN:=Lib.hid (fun W1 (h1:Mk g fv F s W1) bx by_ hbx hby=>fE (bx:=bx) (by_:=by_) (fX:=185) (X:=fun t=>aI F 125 (aF F L t)) (k:=9) hF h1 hs hB hd (by omega) hbx hby (enters_of Tryz.func185 (by kernel_rfl) rfl) hgX (fun t W2 ht hBt h2=>CG hF hL HL h2 (by omega) hBt));have HC1:=Lib.hid (fun W1 (h1:Mk g fv F s W1)=>fq hF h1 hB.p 123 hc.symm);have hgl:=h.lt;have H0:=Lib.hid (Mz.start h);clear h hc hb hd hgX;go_enter Tryz.func157,Tryz.ntmps157;go_upto_region 1 with fail
  refine gQ fun W0 hb0 k0 hs0=>?_
  have HBX:=Lib.hid k0;have b0:=HBX.out.cell 0;have hbl:=HBX.out.lt;have hW0:W.heap.size≤W0.heap.size:=by omega
  have hgW:g≤W0.heap.size:=by omega
  have H1:=Lib.hid (H0.out.next hb0);clear hb0 k0 hs0;go_region
  skip
  have hB3:Below W0.heap.size W0 ((W0.alloc (.cells #[(.func (.func 185) #[.pointer (some ⟨g,0,none⟩)] #[])] 1)).drew):=((Below.refl _ W0).alloc (Nat.le_refl _) _).drew;have ky:Bk ((W0.alloc (.cells #[(.func (.func 185) #[.pointer (some ⟨g,0,none⟩)] #[])] 1)).drew) W0.heap.size 1 #[(.func (.func 185) #[.pointer (some ⟨g,0,none⟩)] #[])]:=Bk.new W0 _ _;generalize ((W0.alloc (.cells #[(.func (.func 185) #[.pointer (some ⟨g,0,none⟩)] #[])] 1)).drew)=W3 at ky hB3 ⊢;have HK:=Lib.hid ky;have H3:=Lib.hid (H1.out.next hB3);have HX3:=Lib.hid (HBX.out.below hB3 hbl);clear ky hB3;clear b0;have b0:=HX3.out.cell 0;go_upto_region 3 with (
    (go_at_call 75;with_reducible refine(HC1.out _ H3.out.m).mono ?_
     rintro e w4 ⟨rfl,hz⟩;have H4:=Lib.hid (H3.out.then hz);have HK4:=Lib.hid (Bk.kt HK.out hz.f.kt (by decide));have HX4:=Lib.hid (Bk.kt HX3.out hz.f.kt (by decide));clear hz))
  have b0:=HX4.out.cell 0;have H5:=Lib.hid H4.out;have HK5:=Lib.hid HK4.out;have HX5:=Lib.hid HX4.out;go_wp2_with (
    (go_at_call 159;refine(HN.out _ H5.out.m _ _ HX5.out HK5.out).mono ?_;rintro e w6 ⟨rfl,hz⟩;have H6:=Lib.hid (H5.out.then hz);clear hz))
  first|go_end0|refine bn ?_
  exact⟨rfl,H6.out⟩
theorem zP (hF:FB F) (hL:GL F L) (HL:cJ g fv F L q) (h:Mk g fv F s W) (hq:q≤s.p+1) (hB:Bd F 30 s) (hb:cH F s=true) (hc:sg F s.p=40) :
    f9 157 g fv F W (.tuple #[]) (cT F L s):=by
  have hs:=dO hb;have hd:s.deep<200:=by
    unfold cH at hb;rw[Bool.and_eq_true] at hb;exact of_decide_eq_true hb.1
  have hT:cT F L s=gL 10 (fun t=>cI F ((fun t=>aI F 41 (aF F L t)) (ai t))) s:=by
    unfold cT;rw[hc];rfl
  rw[hT];clear hT;have hgX:∀t:Ps,t.p≤F.length→Gd F.length 14 t (aI F 41 (aF F L t)):=fun t ht=>iZ hL 40 ht
  have hmix:Tryz.prog.follows .mixedOrders=true:=by kernel_rfl
  have HN:=Lib.hid (fun W1 (h1:Mk g fv F s W1) bx by_ hbx hby=>fE (bx:=bx) (by_:=by_) (fX:=186) (X:=fun t=>aI F 41 (aF F L t)) (k:=10) hF h1 hs hB hd (by omega) hbx hby (enters_of Tryz.func186 (by kernel_rfl) rfl) hgX (fun t W2 ht hBt h2=>sQ hF hL HL h2 (by omega) hBt));have HC1:=Lib.hid (fun W1 (h1:Mk g fv F s W1)=>fq hF h1 hB.p 40 hc.symm);have hgl:=h.lt;have H0:=Lib.hid (Mz.start h);clear h hc hb hd hgX;go_enter Tryz.func157,Tryz.ntmps157;go_upto_region 1 with fail
  refine gQ fun W0 hb0 k0 hs0=>?_
  have HBX:=Lib.hid k0;have b0:=HBX.out.cell 0;have hbl:=HBX.out.lt;have hW0:W.heap.size≤W0.heap.size:=by omega
  have hgW:g≤W0.heap.size:=by omega
  have H1:=Lib.hid (H0.out.next hb0);clear hb0 k0 hs0;go_region
  skip
  have hB3:Below W0.heap.size W0 ((W0.alloc (.cells #[(.func (.func 185) #[.pointer (some ⟨g,0,none⟩)] #[])] 1)).drew):=((Below.refl _ W0).alloc (Nat.le_refl _) _).drew;have ky:Bk ((W0.alloc (.cells #[(.func (.func 185) #[.pointer (some ⟨g,0,none⟩)] #[])] 1)).drew) W0.heap.size 1 #[(.func (.func 185) #[.pointer (some ⟨g,0,none⟩)] #[])]:=Bk.new W0 _ _;generalize ((W0.alloc (.cells #[(.func (.func 185) #[.pointer (some ⟨g,0,none⟩)] #[])] 1)).drew)=W3 at ky hB3 ⊢;have HK:=Lib.hid ky;have H3:=Lib.hid (H1.out.next hB3);have HX3:=Lib.hid (HBX.out.below hB3 hbl);clear ky hB3;clear b0;have b0:=HX3.out.cell 0;go_upto_region 4 with (
    (go_at_call 75;with_reducible refine(HC1.out _ H3.out.m).mono ?_
     rintro e w4 ⟨rfl,hz⟩;have H4:=Lib.hid (H3.out.then hz);have HK4:=Lib.hid (Bk.kt HK.out hz.f.kt (by decide));have HX4:=Lib.hid (Bk.kt HX3.out hz.f.kt (by decide));clear hz))
  have b0:=HX4.out.cell 0;have m0:=HK4.out.cell 0;simp only[List.getElem?_toArray,List.getElem?_cons_zero] at m0;have m1:=HK4.out.frozen 0;go_region;all_goals (
    have hne:W.heap.size≠W0.heap.size:=by omega
    have H5:=Lib.hid ((Mz.setNew (v:=(.func (.func 186) #[.pointer (some ⟨g,0,none⟩)] #[])) H4.out HK4.out hW0 hgW (by decide) (by decide)).next (Below.refl _ _).drew);have k5:Bk _ W0.heap.size 1 #[(.func (.func 186) #[.pointer (some ⟨g,0,none⟩)] #[])]:=(HK4.out.set 0 _).drew;have HK5:=Lib.hid k5;have HX5:=Lib.hid (HX4.out.far (p:=⟨W0.heap.size,0,none⟩) hne (.func (.func 186) #[.pointer (some ⟨g,0,none⟩)] #[])).drew;clear k5;go_wp2_with (
      (go_at_call 159;refine(HN.out _ H5.out.m _ _ HX5.out HK5.out).mono ?_;rintro e w6 ⟨rfl,hz⟩;have H6:=Lib.hid (H5.out.then hz);clear hz))
    first|go_end0|refine bn ?_
    exact⟨rfl,H6.out⟩)
theorem zO (hF:FB F) (hL:GL F L) (HL:cJ g fv F L q) (h:Mk g fv F s W) (hq:q≤s.p+1) (hB:Bd F 30 s) (hb:cH F s=true) (hc:sg F s.p=105) :
    f9 157 g fv F W (.tuple #[]) (cT F L s):=by
  have hs:=dO hb;have hd:s.deep<200:=by
    unfold cH at hb;rw[Bool.and_eq_true] at hb;exact of_decide_eq_true hb.1
  have hT:cT F L s=gL 11 (fun t=>cI F ((fun t=>iC F L t) (ai t))) s:=by
    unfold cT;rw[hc];rfl
  rw[hT];clear hT;have hgX:∀t:Ps,t.p≤F.length→Gd F.length 14 t (iC F L t):=fun t ht=>iZ hL 105 ht
  have hmix:Tryz.prog.follows .mixedOrders=true:=by kernel_rfl
  have HN:=Lib.hid (fun W1 (h1:Mk g fv F s W1) bx by_ hbx hby=>fE (bx:=bx) (by_:=by_) (fX:=187) (X:=fun t=>iC F L t) (k:=11) hF h1 hs hB hd (by omega) hbx hby (enters_of Tryz.func187 (by kernel_rfl) rfl) hgX (fun t W2 ht hBt h2=>tV hF hL HL h2 (by omega) hBt));have HC1:=Lib.hid (fun W1 (h1:Mk g fv F s W1)=>fq hF h1 hB.p 105 hc.symm);have hgl:=h.lt;have H0:=Lib.hid (Mz.start h);clear h hc hb hd hgX;go_enter Tryz.func157,Tryz.ntmps157;go_upto_region 1 with fail
  refine gQ fun W0 hb0 k0 hs0=>?_
  have HBX:=Lib.hid k0;have b0:=HBX.out.cell 0;have hbl:=HBX.out.lt;have hW0:W.heap.size≤W0.heap.size:=by omega
  have hgW:g≤W0.heap.size:=by omega
  have H1:=Lib.hid (H0.out.next hb0);clear hb0 k0 hs0;go_region
  skip
  have hB3:Below W0.heap.size W0 ((W0.alloc (.cells #[(.func (.func 185) #[.pointer (some ⟨g,0,none⟩)] #[])] 1)).drew):=((Below.refl _ W0).alloc (Nat.le_refl _) _).drew;have ky:Bk ((W0.alloc (.cells #[(.func (.func 185) #[.pointer (some ⟨g,0,none⟩)] #[])] 1)).drew) W0.heap.size 1 #[(.func (.func 185) #[.pointer (some ⟨g,0,none⟩)] #[])]:=Bk.new W0 _ _;generalize ((W0.alloc (.cells #[(.func (.func 185) #[.pointer (some ⟨g,0,none⟩)] #[])] 1)).drew)=W3 at ky hB3 ⊢;have HK:=Lib.hid ky;have H3:=Lib.hid (H1.out.next hB3);have HX3:=Lib.hid (HBX.out.below hB3 hbl);clear ky hB3;clear b0;have b0:=HX3.out.cell 0;go_upto_region 6 with (
    (go_at_call 75;with_reducible refine(HC1.out _ H3.out.m).mono ?_
     rintro e w4 ⟨rfl,hz⟩;have H4:=Lib.hid (H3.out.then hz);have HK4:=Lib.hid (Bk.kt HK.out hz.f.kt (by decide));have HX4:=Lib.hid (Bk.kt HX3.out hz.f.kt (by decide));clear hz))
  have b0:=HX4.out.cell 0;have m0:=HK4.out.cell 0;simp only[List.getElem?_toArray,List.getElem?_cons_zero] at m0;have m1:=HK4.out.frozen 0;go_region;all_goals (
    have hne:W.heap.size≠W0.heap.size:=by omega
    have H5:=Lib.hid ((Mz.setNew (v:=(.func (.func 187) #[.pointer (some ⟨g,0,none⟩)] #[])) H4.out HK4.out hW0 hgW (by decide) (by decide)).next (Below.refl _ _).drew);have k5:Bk _ W0.heap.size 1 #[(.func (.func 187) #[.pointer (some ⟨g,0,none⟩)] #[])]:=(HK4.out.set 0 _).drew;have HK5:=Lib.hid k5;have HX5:=Lib.hid (HX4.out.far (p:=⟨W0.heap.size,0,none⟩) hne (.func (.func 187) #[.pointer (some ⟨g,0,none⟩)] #[])).drew;clear k5;go_wp2_with (
      (go_at_call 159;refine(HN.out _ H5.out.m _ _ HX5.out HK5.out).mono ?_;rintro e w6 ⟨rfl,hz⟩;have H6:=Lib.hid (H5.out.then hz);clear hz))
    first|go_end0|refine bn ?_
    exact⟨rfl,H6.out⟩)
theorem zN (hF:FB F) (hL:GL F L) (HL:cJ g fv F L q) (h:Mk g fv F s W) (hq:q≤s.p+1) (hB:Bd F 30 s) (hb:cH F s=true) (hc:sg F s.p=119) :
    f9 157 g fv F W (.tuple #[]) (cT F L s):=by
  have hs:=dO hb;have hd:s.deep<200:=by
    unfold cH at hb;rw[Bool.and_eq_true] at hb;exact of_decide_eq_true hb.1
  have hT:cT F L s=gL 12 (fun t=>cI F ((fun t=>An F L (aF F L t)) (ai t))) s:=by
    unfold cT;rw[hc];rfl
  rw[hT];clear hT;have hgX:∀t:Ps,t.p≤F.length→Gd F.length 14 t (An F L (aF F L t)):=fun t ht=>iZ hL 119 ht
  have hmix:Tryz.prog.follows .mixedOrders=true:=by kernel_rfl
  have HN:=Lib.hid (fun W1 (h1:Mk g fv F s W1) bx by_ hbx hby=>fE (bx:=bx) (by_:=by_) (fX:=188) (X:=fun t=>An F L (aF F L t)) (k:=12) hF h1 hs hB hd (by omega) hbx hby (enters_of Tryz.func188 (by kernel_rfl) rfl) hgX (fun t W2 ht hBt h2=>DY hF hL HL h2 (by omega) hBt));have HC1:=Lib.hid (fun W1 (h1:Mk g fv F s W1)=>fq hF h1 hB.p 119 hc.symm);have hgl:=h.lt;have H0:=Lib.hid (Mz.start h);clear h hc hb hd hgX;go_enter Tryz.func157,Tryz.ntmps157;go_upto_region 1 with fail
  refine gQ fun W0 hb0 k0 hs0=>?_
  have HBX:=Lib.hid k0;have b0:=HBX.out.cell 0;have hbl:=HBX.out.lt;have hW0:W.heap.size≤W0.heap.size:=by omega
  have hgW:g≤W0.heap.size:=by omega
  have H1:=Lib.hid (H0.out.next hb0);clear hb0 k0 hs0;go_region
  skip
  have hB3:Below W0.heap.size W0 ((W0.alloc (.cells #[(.func (.func 185) #[.pointer (some ⟨g,0,none⟩)] #[])] 1)).drew):=((Below.refl _ W0).alloc (Nat.le_refl _) _).drew;have ky:Bk ((W0.alloc (.cells #[(.func (.func 185) #[.pointer (some ⟨g,0,none⟩)] #[])] 1)).drew) W0.heap.size 1 #[(.func (.func 185) #[.pointer (some ⟨g,0,none⟩)] #[])]:=Bk.new W0 _ _;generalize ((W0.alloc (.cells #[(.func (.func 185) #[.pointer (some ⟨g,0,none⟩)] #[])] 1)).drew)=W3 at ky hB3 ⊢;have HK:=Lib.hid ky;have H3:=Lib.hid (H1.out.next hB3);have HX3:=Lib.hid (HBX.out.below hB3 hbl);clear ky hB3;clear b0;have b0:=HX3.out.cell 0;go_upto_region 8 with (
    (go_at_call 75;with_reducible refine(HC1.out _ H3.out.m).mono ?_
     rintro e w4 ⟨rfl,hz⟩;have H4:=Lib.hid (H3.out.then hz);have HK4:=Lib.hid (Bk.kt HK.out hz.f.kt (by decide));have HX4:=Lib.hid (Bk.kt HX3.out hz.f.kt (by decide));clear hz))
  have b0:=HX4.out.cell 0;have m0:=HK4.out.cell 0;simp only[List.getElem?_toArray,List.getElem?_cons_zero] at m0;have m1:=HK4.out.frozen 0;go_region;all_goals (
    have hne:W.heap.size≠W0.heap.size:=by omega
    have H5:=Lib.hid ((Mz.setNew (v:=(.func (.func 188) #[.pointer (some ⟨g,0,none⟩)] #[])) H4.out HK4.out hW0 hgW (by decide) (by decide)).next (Below.refl _ _).drew);have k5:Bk _ W0.heap.size 1 #[(.func (.func 188) #[.pointer (some ⟨g,0,none⟩)] #[])]:=(HK4.out.set 0 _).drew;have HK5:=Lib.hid k5;have HX5:=Lib.hid (HX4.out.far (p:=⟨W0.heap.size,0,none⟩) hne (.func (.func 188) #[.pointer (some ⟨g,0,none⟩)] #[])).drew;clear k5;go_wp2_with (
      (go_at_call 159;refine(HN.out _ H5.out.m _ _ HX5.out HK5.out).mono ?_;rintro e w6 ⟨rfl,hz⟩;have H6:=Lib.hid (H5.out.then hz);clear hz))
    first|go_end0|refine bn ?_
    exact⟨rfl,H6.out⟩)
theorem zM (hF:FB F) (hL:GL F L) (HL:cJ g fv F L q) (h:Mk g fv F s W) (hq:q≤s.p+1) (hB:Bd F 30 s) (hb:cH F s=true) (hc:sg F s.p=114) :
    f9 157 g fv F W (.tuple #[]) (cT F L s):=by
  have hs:=dO hb;have hd:s.deep<200:=by
    unfold cH at hb;rw[Bool.and_eq_true] at hb;exact of_decide_eq_true hb.1
  have hT:cT F L s=gL 13 (fun t=>cI F ((fun t=>cG F L t) (ai t))) s:=by
    unfold cT;rw[hc];rfl
  rw[hT];clear hT;have hgX:∀t:Ps,t.p≤F.length→Gd F.length 14 t (cG F L t):=fun t ht=>iZ hL 114 ht
  have hmix:Tryz.prog.follows .mixedOrders=true:=by kernel_rfl
  have HN:=Lib.hid (fun W1 (h1:Mk g fv F s W1) bx by_ hbx hby=>fE (bx:=bx) (by_:=by_) (fX:=189) (X:=fun t=>cG F L t) (k:=13) hF h1 hs hB hd (by omega) hbx hby (enters_of Tryz.func189 (by kernel_rfl) rfl) hgX (fun t W2 ht hBt h2=>zB hF hL HL h2 (by omega) hBt));have HC1:=Lib.hid (fun W1 (h1:Mk g fv F s W1)=>fq hF h1 hB.p 114 hc.symm);have hgl:=h.lt;have H0:=Lib.hid (Mz.start h);clear h hc hb hd hgX;go_enter Tryz.func157,Tryz.ntmps157;go_upto_region 1 with fail
  refine gQ fun W0 hb0 k0 hs0=>?_
  have HBX:=Lib.hid k0;have b0:=HBX.out.cell 0;have hbl:=HBX.out.lt;have hW0:W.heap.size≤W0.heap.size:=by omega
  have hgW:g≤W0.heap.size:=by omega
  have H1:=Lib.hid (H0.out.next hb0);clear hb0 k0 hs0;go_region
  skip
  have hB3:Below W0.heap.size W0 ((W0.alloc (.cells #[(.func (.func 185) #[.pointer (some ⟨g,0,none⟩)] #[])] 1)).drew):=((Below.refl _ W0).alloc (Nat.le_refl _) _).drew;have ky:Bk ((W0.alloc (.cells #[(.func (.func 185) #[.pointer (some ⟨g,0,none⟩)] #[])] 1)).drew) W0.heap.size 1 #[(.func (.func 185) #[.pointer (some ⟨g,0,none⟩)] #[])]:=Bk.new W0 _ _;generalize ((W0.alloc (.cells #[(.func (.func 185) #[.pointer (some ⟨g,0,none⟩)] #[])] 1)).drew)=W3 at ky hB3 ⊢;have HK:=Lib.hid ky;have H3:=Lib.hid (H1.out.next hB3);have HX3:=Lib.hid (HBX.out.below hB3 hbl);clear ky hB3;clear b0;have b0:=HX3.out.cell 0;go_upto_region 10 with (
    (go_at_call 75;with_reducible refine(HC1.out _ H3.out.m).mono ?_
     rintro e w4 ⟨rfl,hz⟩;have H4:=Lib.hid (H3.out.then hz);have HK4:=Lib.hid (Bk.kt HK.out hz.f.kt (by decide));have HX4:=Lib.hid (Bk.kt HX3.out hz.f.kt (by decide));clear hz))
  have b0:=HX4.out.cell 0;have m0:=HK4.out.cell 0;simp only[List.getElem?_toArray,List.getElem?_cons_zero] at m0;have m1:=HK4.out.frozen 0;go_region;all_goals (
    have hne:W.heap.size≠W0.heap.size:=by omega
    have H5:=Lib.hid ((Mz.setNew (v:=(.func (.func 189) #[.pointer (some ⟨g,0,none⟩)] #[])) H4.out HK4.out hW0 hgW (by decide) (by decide)).next (Below.refl _ _).drew);have k5:Bk _ W0.heap.size 1 #[(.func (.func 189) #[.pointer (some ⟨g,0,none⟩)] #[])]:=(HK4.out.set 0 _).drew;have HK5:=Lib.hid k5;have HX5:=Lib.hid (HX4.out.far (p:=⟨W0.heap.size,0,none⟩) hne (.func (.func 189) #[.pointer (some ⟨g,0,none⟩)] #[])).drew;clear k5;go_wp2_with (
      (go_at_call 159;refine(HN.out _ H5.out.m _ _ HX5.out HK5.out).mono ?_;rintro e w6 ⟨rfl,hz⟩;have H6:=Lib.hid (H5.out.then hz);clear hz))
    first|go_end0|refine bn ?_
    exact⟨rfl,H6.out⟩)
theorem zL (hF:FB F) (hL:GL F L) (HL:cJ g fv F L q) (h:Mk g fv F s W) (hq:q≤s.p+1) (hB:Bd F 30 s) (hb:cH F s=true) (hc:sg F s.p=99) :
    f9 157 g fv F W (.tuple #[]) (cT F L s):=by
  have hs:=dO hb;have hd:s.deep<200:=by
    unfold cH at hb;rw[Bool.and_eq_true] at hb;exact of_decide_eq_true hb.1
  have hT:cT F L s=gL 14 (fun t=>cI F ((fun t=>eR F L t) (ai t))) s:=by
    unfold cT;rw[hc];rfl
  rw[hT];clear hT;have hgX:∀t:Ps,t.p≤F.length→Gd F.length 14 t (eR F L t):=fun t ht=>iZ hL 99 ht
  have hmix:Tryz.prog.follows .mixedOrders=true:=by kernel_rfl
  have HN:=Lib.hid (fun W1 (h1:Mk g fv F s W1) bx by_ hbx hby=>fE (bx:=bx) (by_:=by_) (fX:=190) (X:=fun t=>eR F L t) (k:=14) hF h1 hs hB hd (by omega) hbx hby (enters_of Tryz.func190 (by kernel_rfl) rfl) hgX (fun t W2 ht hBt h2=>CF hF hL HL h2 (by omega) hBt));have HC1:=Lib.hid (fun W1 (h1:Mk g fv F s W1)=>fq hF h1 hB.p 99 hc.symm);have hgl:=h.lt;have H0:=Lib.hid (Mz.start h);clear h hc hb hd hgX;go_enter Tryz.func157,Tryz.ntmps157;go_upto_region 1 with fail
  refine gQ fun W0 hb0 k0 hs0=>?_
  have HBX:=Lib.hid k0;have b0:=HBX.out.cell 0;have hbl:=HBX.out.lt;have hW0:W.heap.size≤W0.heap.size:=by omega
  have hgW:g≤W0.heap.size:=by omega
  have H1:=Lib.hid (H0.out.next hb0);clear hb0 k0 hs0;go_region
  skip
  have hB3:Below W0.heap.size W0 ((W0.alloc (.cells #[(.func (.func 185) #[.pointer (some ⟨g,0,none⟩)] #[])] 1)).drew):=((Below.refl _ W0).alloc (Nat.le_refl _) _).drew;have ky:Bk ((W0.alloc (.cells #[(.func (.func 185) #[.pointer (some ⟨g,0,none⟩)] #[])] 1)).drew) W0.heap.size 1 #[(.func (.func 185) #[.pointer (some ⟨g,0,none⟩)] #[])]:=Bk.new W0 _ _;generalize ((W0.alloc (.cells #[(.func (.func 185) #[.pointer (some ⟨g,0,none⟩)] #[])] 1)).drew)=W3 at ky hB3 ⊢;have HK:=Lib.hid ky;have H3:=Lib.hid (H1.out.next hB3);have HX3:=Lib.hid (HBX.out.below hB3 hbl);clear ky hB3;clear b0;have b0:=HX3.out.cell 0;go_upto_region 12 with (
    (go_at_call 75;with_reducible refine(HC1.out _ H3.out.m).mono ?_
     rintro e w4 ⟨rfl,hz⟩;have H4:=Lib.hid (H3.out.then hz);have HK4:=Lib.hid (Bk.kt HK.out hz.f.kt (by decide));have HX4:=Lib.hid (Bk.kt HX3.out hz.f.kt (by decide));clear hz))
  have b0:=HX4.out.cell 0;have m0:=HK4.out.cell 0;simp only[List.getElem?_toArray,List.getElem?_cons_zero] at m0;have m1:=HK4.out.frozen 0;go_region;all_goals (
    have hne:W.heap.size≠W0.heap.size:=by omega
    have H5:=Lib.hid ((Mz.setNew (v:=(.func (.func 190) #[.pointer (some ⟨g,0,none⟩)] #[])) H4.out HK4.out hW0 hgW (by decide) (by decide)).next (Below.refl _ _).drew);have k5:Bk _ W0.heap.size 1 #[(.func (.func 190) #[.pointer (some ⟨g,0,none⟩)] #[])]:=(HK4.out.set 0 _).drew;have HK5:=Lib.hid k5;have HX5:=Lib.hid (HX4.out.far (p:=⟨W0.heap.size,0,none⟩) hne (.func (.func 190) #[.pointer (some ⟨g,0,none⟩)] #[])).drew;clear k5;go_wp2_with (
      (go_at_call 159;refine(HN.out _ H5.out.m _ _ HX5.out HK5.out).mono ?_;rintro e w6 ⟨rfl,hz⟩;have H6:=Lib.hid (H5.out.then hz);clear hz))
    first|go_end0|refine bn ?_
    exact⟨rfl,H6.out⟩)
theorem nQ (hF:FB F) (hL:GL F L) (HL:cJ g fv F L q) (h:Mk g fv F s W) (hq:q≤s.p+1) (hB:Bd F 30 s) (hb:cH F s=true) :
    f9 157 g fv F W (.tuple #[]) (cT F L s):=by
  have hc:sg F s.p∈[123,40,105,119,114,99]:=by
    have h1:=hb;unfold cH at h1;rw[Bool.and_eq_true] at h1;exact List.contains_iff_mem.1 h1.2
  simp only[List.mem_cons,List.not_mem_nil,or_false] at hc;rcases hc with hc|hc|hc|hc|hc|hc
  ·exact Cz hF hL HL h hq hB hb hc
  ·exact zP hF hL HL h hq hB hb hc
  ·exact zO hF hL HL h hq hB hb hc
  ·exact zN hF hL HL h hq hB hb hc
  ·exact zM hF hL HL h hq hB hb hc
  ·exact zL hF hL HL h hq hB hb hc
theorem AQ (hs:s.p≤F.length) (hb:aX F s=true):dJ F s=dJ F (cD F s):=by
  unfold dJ;rw[LC.stepy eS hs (t:=cD F s) (by show (if _ then _ else _)=_;rw[if_pos hb])]
theorem AU (hs:s.p≤F.length) (hb:aX F s=false) (hw:dW F s.p=true) (ha:nU (tx F s.p)=true):dJ F s=dJ F (aD 6 s):=by
  unfold dJ;rw[LC.stepy eS hs (t:=aD 6 s) (by show (if _ then _ else if _ then _ else _)=_;rw[if_neg (by rw[hb];decide),if_pos (by rw[hw,ha];rfl)])]
theorem AP (hs:s.p≤F.length) (hb:aX F s=false) (hw:dW F s.p=true) (ha:nU (tx F s.p)=false):dJ F s=eK F (aD 7 s):=by
  have e:=LC.stepn eS hs (t:=s) (by show (if _ then _ else if _ then _ else _)=_;rw[if_neg (by rw[hb];decide),if_neg (by rw[hw,ha];decide)]);unfold dJ;simp only[e,hw,if_true]
theorem AS (hs:s.p≤F.length) (hb:aX F s=false) (hw:dW F s.p=false):dJ F s=s:=by
  have e:=LC.stepn eS hs (t:=s) (by show (if _ then _ else if _ then _ else _)=_;rw[if_neg (by rw[hb];decide),if_neg (by rw[hw];exact fun h=>by cases h)]);unfold dJ;simp only[e,hw,if_false,Bool.false_eq_true]
theorem AW (hs:s.p≤F.length) (hb:aX F s=true):eK F s=eK F (cD F s):=
  LC.stepy gj hs (t:=cD F s) (by show (if _ then _ else _)=_;rw[if_pos hb])
theorem AV (hs:s.p≤F.length) (hb:aX F s=false) (hw:dW F s.p=true):eK F s=eK F (aD 7 s):=
  LC.stepy gj hs (t:=aD 7 s) (by show (if _ then _ else if _ then _ else _)=_;rw[if_neg (by rw[hb];decide),if_pos hw])
theorem AX (hs:s.p≤F.length) (hb:aX F s=false) (hw:dW F s.p=false):eK F s=s:=
  LC.stepn gj hs (t:=s) (by show (if _ then _ else if _ then _ else _)=_;rw[if_neg (by rw[hb];decide),if_neg (by rw[hw];decide)])
structure Sm (F:List Lf) (T u:Ps) (b:Bool):Prop where
  w:(b=false∧dJ F u=T)∨(b=true∧eK F u=T)
theorem Dv (h:dW F u.p=true):Gd F.length 0 u (aD 6 u)∧u.p<(aD 6 u).p:=⟨(bY (F:=F) (k:=6) (bC h)).2.2,(bY (F:=F) (k:=6) (bC h)).2.1⟩
theorem wZ (h:dW F u.p=true):Gd F.length 0 u (aD 7 u)∧u.p<(aD 7 u).p:=⟨(bY (F:=F) (k:=7) (bC h)).2.2,(bY (F:=F) (k:=7) (bC h)).2.1⟩
theorem xc (hF:FB F) (h:Mk g fv F s W) (hB:Bd F 27 s) :
    f9 161 g fv F W (.tuple #[]) (dJ F s):=by
  have hmix:Tryz.prog.follows .mixedOrders=true:=by kernel_rfl
  obtain⟨T,hT⟩:∃T,T=dJ F s:=⟨_,rfl⟩;rw[←hT];have HT:=Lib.hid hT;clear hT;have H0:=Lib.hid (Mz.start h);clear h;go_enter Tryz.func161,Tryz.ntmps161;go_wp2_with fail;go_step3;go_wp2_with fail;go_step3;go_wp2_with fail;go_loopw [2] (fun v wr=>∃(u:Ps) (b:Bool),v=.bool b∧Bd F 27 u∧Sm F T u b∧Mz g fv F W u wr) (fun _ wr=>F.length-pOf g wr)
  case atStart=>exact⟨s,false,rfl,hB,⟨.inl ⟨rfl,HT.out.symm⟩⟩,H0.out⟩
  case round=>
    obtain⟨u,b,rfl,hBu,hsm,hz⟩:=hrel;have U0:=Lib.hid hz;have hup:=hz.m.pOf;have HP:=Lib.hid hup;have HS:=Lib.hid hsm;clear hz hup hsm
    cases hb:aX F u
    ·cases hw:dW F u.p
     ·have hT9:T=u:=by
        rcases HS.out.w with ⟨_,h2⟩|⟨_,h2⟩
        ·exact h2.symm.trans (AS hBu.p hb hw)
        ·exact h2.symm.trans (AX hBu.p hb hw)
      have HT9:=Lib.hid hT9;clear hT9;have NC1:=Lib.hid (fun W1 (h1:Mk g fv F (u) W1)=>eU hF h1 (hBu.mono (by omega)) hb);have NC2:=Lib.hid (fun W1 (h1:Mk g fv F (u) W1)=>cm hF h1 hBu.p hw)
      go_wp2_with (first
        | (go_at_call 192;with_reducible refine(NC1.out _ U0.out.m).mono (Mz.k U0 fun nw1 N1=>?_))
        | (go_at_call 196;with_reducible refine(NC2.out _ N1.out.m).mono (Mz.k N1 fun nw2 N2=>?_))
        | fail)
      try rw[Exit.noGoto_normal]
      first|go_end0|refine bn ?_
      refine⟨rfl,?_⟩;rw[HT9.out];exact N2.out
     ·cases b
      ·cases ha:nU (tx F u.p);have h2:dJ F u=T:=by
         rcases HS.out.w with ⟨h1,h2⟩|⟨h1,h2⟩
         ·exact h2
         ·cases h1
       have hsm:Sm F T (aD 7 u) true:=⟨.inr ⟨rfl,(AP hBu.p hb hw ha).symm.trans h2⟩⟩;have HS2:=Lib.hid hsm;clear hsm h2;have hy:=wZ hw;have NC1:=Lib.hid (fun W1 (h1:Mk g fv F (u) W1)=>eU hF h1 (hBu.mono (by omega)) hb);have NC2:=Lib.hid (fun W1 (h1:Mk g fv F (u) W1)=>dH hF h1 hBu.p hw)
       go_upto_region 5 with (first
         | (go_at_call 192;with_reducible refine(NC1.out _ U0.out.m).mono (Mz.k U0 fun nw1 N1=>?_))
         | (go_at_call 196;with_reducible refine(NC2.out _ N1.out.m).mono (Mz.k N1 fun nw2 N2=>?_))
         | fail)
       have SH:=Lib.hid N2.out;obtain⟨y0,y1,y3,y4,_⟩:=SH.out.m.cells;have hlt:=bC hw;obtain⟨x,hx⟩:∃x,F[u.p]? = some x:=⟨_,List.getElem?_eq_getElem hlt⟩;have htx:tx F u.p=x.tx:=by unfold tx;rw[hx]
       have htl:=hF.t x (List.mem_of_getElem? hx);obtain⟨A,c,hfv⟩:=SH.out.m.f.formm;have hf9:=SH.out.m.f;rw[hfv] at hf9;obtain⟨g1,o1,hA9,z0,z1,z2,z3⟩:=fO hf9 hx rfl;rw[hfv,hA9] at y0;have u1:(u.p:Int)<(F.length:Int):=by omega
       have u2:(0:Int)≤(u.p:Int):=by omega
       have hn9:=fun W=>oX x.tx W (by omega)
       rw[←htx] at hn9;rw[ha] at hn9;rw[htx] at hn9;have HN:=Lib.hid hn9;clear hn9 htx hx htl z0 z2 z3 hf9 hA9 hfv y3 y4;obtain⟨S0,hS0⟩:∃S0:World→Prop,S0=fun w'=>Below nw2.heap.size nw2 w':=⟨_,rfl⟩
       refine wp_region_held (S:=S0) hmix ?_;show wpAnyH _ _ _ _ _ _ _ _ nw2.drew;have hS1:S0 nw2.drew:=by rw[hS0];exact(Below.refl _ nw2).drew
       have tc:∀(w':World),S0 w'→∀(a:Addr) (v:Value),nw2.cell? a=some v→w'.cell? a=some v:=fun w' h a v hc=>wj (by rw[hS0] at h;exact h) hc
       refine tk 0 (.bool false) hS1 (fun w' hS=>?_) ?_
       ·go_simp
       try simp only[Act.put,List.getElem_toArray,List.getElem_cons_succ,List.getElem_cons_zero,List.setIfInBounds_toArray,List.set_cons_zero,List.set_cons_succ]
       refine tk 1 (.bool true) hS1 (fun w' hS=>?_) ?_
       ·go_simp
       try simp only[Act.put,List.getElem_toArray,List.getElem_cons_succ,List.getElem_cons_zero,List.setIfInBounds_toArray,List.set_cons_zero,List.set_cons_succ]
       refine tk 2 (.bool true) hS1 (fun w' hS=>?_) ?_
       ·go_simp
       try simp only[Act.put,List.getElem_toArray,List.getElem_cons_succ,List.getElem_cons_zero,List.setIfInBounds_toArray,List.set_cons_zero,List.set_cons_succ]
       refine tk 3 (.pointer (some ⟨g,0,none⟩)) hS1 (fun w' hS=>?_) ?_
       ·go_simp
       try simp only[Act.put,List.getElem_toArray,List.getElem_cons_succ,List.getElem_cons_zero,List.setIfInBounds_toArray,List.set_cons_zero,List.set_cons_succ]
       refine tk 4 (.pointer (some ⟨g,0,none⟩)) hS1 (fun w' hS=>?_) ?_
       ·go_simp
       try simp only[Act.put,List.getElem_toArray,List.getElem_cons_succ,List.getElem_cons_zero,List.setIfInBounds_toArray,List.set_cons_zero,List.set_cons_succ]
       refine tk 5 (.pointer (some ⟨g,0,none⟩)) hS1 (fun w' hS=>?_) ?_
       ·go_simp
       try simp only[Act.put,List.getElem_toArray,List.getElem_cons_succ,List.getElem_cons_zero,List.setIfInBounds_toArray,List.set_cons_zero,List.set_cons_succ]
       refine tk 6 (.slice (some ⟨g1,o1,none⟩) F.length c) hS1 (fun w' hS=>?_) ?_
       ·have c0:=tc w' hS _ _ y0;go_simp
       try simp only[Act.put,List.getElem_toArray,List.getElem_cons_succ,List.getElem_cons_zero,List.setIfInBounds_toArray,List.set_cons_zero,List.set_cons_succ]
       refine tk 7 (.pointer (some ⟨g,0,none⟩)) hS1 (fun w' hS=>?_) ?_
       ·go_simp
       try simp only[Act.put,List.getElem_toArray,List.getElem_cons_succ,List.getElem_cons_zero,List.setIfInBounds_toArray,List.set_cons_zero,List.set_cons_succ]
       refine tk 8 (.pointer (some ⟨g,0,none⟩)) hS1 (fun w' hS=>?_) ?_
       ·go_simp
       try simp only[Act.put,List.getElem_toArray,List.getElem_cons_succ,List.getElem_cons_zero,List.setIfInBounds_toArray,List.set_cons_zero,List.set_cons_succ]
       refine tk 9 (.pointer (some ⟨g,1,none⟩)) hS1 (fun w' hS=>?_) ?_
       ·go_simp
       try simp only[Act.put,List.getElem_toArray,List.getElem_cons_succ,List.getElem_cons_zero,List.setIfInBounds_toArray,List.set_cons_zero,List.set_cons_succ]
       refine tk 10 (.int .i64 (u.p:Int)) hS1 (fun w' hS=>?_) ?_
       ·have c0:=tc w' hS _ _ y1;go_simp
       try simp only[Act.put,List.getElem_toArray,List.getElem_cons_succ,List.getElem_cons_zero,List.setIfInBounds_toArray,List.set_cons_zero,List.set_cons_succ]
       refine tk 11 (.pointer (some ⟨g1,o1+u.p*4,none⟩)) hS1 (fun w' hS=>?_) ?_
       ·go_simp
       try simp only[Act.put,List.getElem_toArray,List.getElem_cons_succ,List.getElem_cons_zero,List.setIfInBounds_toArray,List.set_cons_zero,List.set_cons_succ]
       refine tk 12 (.pointer (some ⟨g1,o1+u.p*4+1,none⟩)) hS1 (fun w' hS=>?_) ?_
       ·go_simp
       try simp only[Act.put,List.getElem_toArray,List.getElem_cons_succ,List.getElem_cons_zero,List.setIfInBounds_toArray,List.set_cons_zero,List.set_cons_succ]
       refine tk 13 (.string ⟨x.tx.toArray⟩) hS1 (fun w' hS=>?_) ?_
       ·have c0:=tc w' hS _ _ z1;go_simp
       try simp only[Act.put,List.getElem_toArray,List.getElem_cons_succ,List.getElem_cons_zero,List.setIfInBounds_toArray,List.set_cons_zero,List.set_cons_succ]
       refine wpAnyH_all (rs:=[14]) (by decide +kernel) (by simp) (jI rfl (by rfl) (fun K2 hK2=>?_) (jJ (S:=S0)));go_simp;go_at_call 197;refine(HN.out _).mono ?_;rintro e w9 ⟨rfl,hz⟩;have HB:=Lib.hid ((Below.refl _ nw2).drew.trans hz);clear hz;have hS3:S0 w9:=by rw[hS0];exact HB.out
       refine hK2 _ _ hS3 ?_;clear hK2 K2;try simp only[Act.put,List.getElem_toArray,List.getElem_cons_succ,List.getElem_cons_zero,List.setIfInBounds_toArray,List.set_cons_zero,List.set_cons_succ]
       refine tk 15 (.bool false) hS3 (fun w' hS=>?_) ?_
       ·go_simp
       try simp only[Act.put,List.getElem_toArray,List.getElem_cons_succ,List.getElem_cons_zero,List.setIfInBounds_toArray,List.set_cons_zero,List.set_cons_succ]
       refine tk 16 (.bool false) hS3 (fun w' hS=>?_) ?_
       ·go_simp
       try simp only[Act.put,List.getElem_toArray,List.getElem_cons_succ,List.getElem_cons_zero,List.setIfInBounds_toArray,List.set_cons_zero,List.set_cons_succ]
       refine wpAnyH_done (by decide +kernel) ?_ _;have E0:=Lib.hid (SH.out.next HB.out);clear hS0 hS1 tc hS3;have MC1:=Lib.hid (fun W1 (h1:Mk g fv F (u) W1)=>gu hF h1 (hBu.mono (by omega)) (bC hw))
       rotate_left
       have h2:dJ F u=T:=by
         rcases HS.out.w with ⟨h1,h2⟩|⟨h1,h2⟩
         ·exact h2
         ·cases h1
       have hsm:Sm F T (aD 6 u) false:=⟨.inl ⟨rfl,(AU hBu.p hb hw ha).symm.trans h2⟩⟩;have HS2:=Lib.hid hsm;clear hsm h2;have hy:=Dv hw;have NC1:=Lib.hid (fun W1 (h1:Mk g fv F (u) W1)=>eU hF h1 (hBu.mono (by omega)) hb);have NC2:=Lib.hid (fun W1 (h1:Mk g fv F (u) W1)=>dH hF h1 hBu.p hw)
       go_upto_region 5 with (first
         | (go_at_call 192;with_reducible refine(NC1.out _ U0.out.m).mono (Mz.k U0 fun nw1 N1=>?_))
         | (go_at_call 196;with_reducible refine(NC2.out _ N1.out.m).mono (Mz.k N1 fun nw2 N2=>?_))
         | fail)
       have SH:=Lib.hid N2.out;obtain⟨y0,y1,y3,y4,_⟩:=SH.out.m.cells;have hlt:=bC hw;obtain⟨x,hx⟩:∃x,F[u.p]? = some x:=⟨_,List.getElem?_eq_getElem hlt⟩;have htx:tx F u.p=x.tx:=by unfold tx;rw[hx]
       have htl:=hF.t x (List.mem_of_getElem? hx);obtain⟨A,c,hfv⟩:=SH.out.m.f.formm;have hf9:=SH.out.m.f;rw[hfv] at hf9;obtain⟨g1,o1,hA9,z0,z1,z2,z3⟩:=fO hf9 hx rfl;rw[hfv,hA9] at y0;have u1:(u.p:Int)<(F.length:Int):=by omega
       have u2:(0:Int)≤(u.p:Int):=by omega
       have hn9:=fun W=>oX x.tx W (by omega)
       rw[←htx] at hn9;rw[ha] at hn9;rw[htx] at hn9;have HN:=Lib.hid hn9;clear hn9 htx hx htl z0 z2 z3 hf9 hA9 hfv y3 y4;obtain⟨S0,hS0⟩:∃S0:World→Prop,S0=fun w'=>Below nw2.heap.size nw2 w':=⟨_,rfl⟩
       refine wp_region_held (S:=S0) hmix ?_;show wpAnyH _ _ _ _ _ _ _ _ nw2.drew;have hS1:S0 nw2.drew:=by rw[hS0];exact(Below.refl _ nw2).drew
       have tc:∀(w':World),S0 w'→∀(a:Addr) (v:Value),nw2.cell? a=some v→w'.cell? a=some v:=fun w' h a v hc=>wj (by rw[hS0] at h;exact h) hc
       refine tk 0 (.bool false) hS1 (fun w' hS=>?_) ?_
       ·go_simp
       try simp only[Act.put,List.getElem_toArray,List.getElem_cons_succ,List.getElem_cons_zero,List.setIfInBounds_toArray,List.set_cons_zero,List.set_cons_succ]
       refine tk 1 (.bool true) hS1 (fun w' hS=>?_) ?_
       ·go_simp
       try simp only[Act.put,List.getElem_toArray,List.getElem_cons_succ,List.getElem_cons_zero,List.setIfInBounds_toArray,List.set_cons_zero,List.set_cons_succ]
       refine tk 2 (.bool true) hS1 (fun w' hS=>?_) ?_
       ·go_simp
       try simp only[Act.put,List.getElem_toArray,List.getElem_cons_succ,List.getElem_cons_zero,List.setIfInBounds_toArray,List.set_cons_zero,List.set_cons_succ]
       refine tk 3 (.pointer (some ⟨g,0,none⟩)) hS1 (fun w' hS=>?_) ?_
       ·go_simp
       try simp only[Act.put,List.getElem_toArray,List.getElem_cons_succ,List.getElem_cons_zero,List.setIfInBounds_toArray,List.set_cons_zero,List.set_cons_succ]
       refine tk 4 (.pointer (some ⟨g,0,none⟩)) hS1 (fun w' hS=>?_) ?_
       ·go_simp
       try simp only[Act.put,List.getElem_toArray,List.getElem_cons_succ,List.getElem_cons_zero,List.setIfInBounds_toArray,List.set_cons_zero,List.set_cons_succ]
       refine tk 5 (.pointer (some ⟨g,0,none⟩)) hS1 (fun w' hS=>?_) ?_
       ·go_simp
       try simp only[Act.put,List.getElem_toArray,List.getElem_cons_succ,List.getElem_cons_zero,List.setIfInBounds_toArray,List.set_cons_zero,List.set_cons_succ]
       refine tk 6 (.slice (some ⟨g1,o1,none⟩) F.length c) hS1 (fun w' hS=>?_) ?_
       ·have c0:=tc w' hS _ _ y0;go_simp
       try simp only[Act.put,List.getElem_toArray,List.getElem_cons_succ,List.getElem_cons_zero,List.setIfInBounds_toArray,List.set_cons_zero,List.set_cons_succ]
       refine tk 7 (.pointer (some ⟨g,0,none⟩)) hS1 (fun w' hS=>?_) ?_
       ·go_simp
       try simp only[Act.put,List.getElem_toArray,List.getElem_cons_succ,List.getElem_cons_zero,List.setIfInBounds_toArray,List.set_cons_zero,List.set_cons_succ]
       refine tk 8 (.pointer (some ⟨g,0,none⟩)) hS1 (fun w' hS=>?_) ?_
       ·go_simp
       try simp only[Act.put,List.getElem_toArray,List.getElem_cons_succ,List.getElem_cons_zero,List.setIfInBounds_toArray,List.set_cons_zero,List.set_cons_succ]
       refine tk 9 (.pointer (some ⟨g,1,none⟩)) hS1 (fun w' hS=>?_) ?_
       ·go_simp
       try simp only[Act.put,List.getElem_toArray,List.getElem_cons_succ,List.getElem_cons_zero,List.setIfInBounds_toArray,List.set_cons_zero,List.set_cons_succ]
       refine tk 10 (.int .i64 (u.p:Int)) hS1 (fun w' hS=>?_) ?_
       ·have c0:=tc w' hS _ _ y1;go_simp
       try simp only[Act.put,List.getElem_toArray,List.getElem_cons_succ,List.getElem_cons_zero,List.setIfInBounds_toArray,List.set_cons_zero,List.set_cons_succ]
       refine tk 11 (.pointer (some ⟨g1,o1+u.p*4,none⟩)) hS1 (fun w' hS=>?_) ?_
       ·go_simp
       try simp only[Act.put,List.getElem_toArray,List.getElem_cons_succ,List.getElem_cons_zero,List.setIfInBounds_toArray,List.set_cons_zero,List.set_cons_succ]
       refine tk 12 (.pointer (some ⟨g1,o1+u.p*4+1,none⟩)) hS1 (fun w' hS=>?_) ?_
       ·go_simp
       try simp only[Act.put,List.getElem_toArray,List.getElem_cons_succ,List.getElem_cons_zero,List.setIfInBounds_toArray,List.set_cons_zero,List.set_cons_succ]
       refine tk 13 (.string ⟨x.tx.toArray⟩) hS1 (fun w' hS=>?_) ?_
       ·have c0:=tc w' hS _ _ z1;go_simp
       try simp only[Act.put,List.getElem_toArray,List.getElem_cons_succ,List.getElem_cons_zero,List.setIfInBounds_toArray,List.set_cons_zero,List.set_cons_succ]
       refine wpAnyH_all (rs:=[14]) (by decide +kernel) (by simp) (jI rfl (by rfl) (fun K2 hK2=>?_) (jJ (S:=S0)));go_simp;go_at_call 197;refine(HN.out _).mono ?_;rintro e w9 ⟨rfl,hz⟩;have HB:=Lib.hid ((Below.refl _ nw2).drew.trans hz);clear hz;have hS3:S0 w9:=by rw[hS0];exact HB.out
       refine hK2 _ _ hS3 ?_;clear hK2 K2;try simp only[Act.put,List.getElem_toArray,List.getElem_cons_succ,List.getElem_cons_zero,List.setIfInBounds_toArray,List.set_cons_zero,List.set_cons_succ]
       refine tk 15 (.bool true) hS3 (fun w' hS=>?_) ?_
       ·go_simp
       try simp only[Act.put,List.getElem_toArray,List.getElem_cons_succ,List.getElem_cons_zero,List.setIfInBounds_toArray,List.set_cons_zero,List.set_cons_succ]
       refine tk 16 (.bool true) hS3 (fun w' hS=>?_) ?_
       ·go_simp
       try simp only[Act.put,List.getElem_toArray,List.getElem_cons_succ,List.getElem_cons_zero,List.setIfInBounds_toArray,List.set_cons_zero,List.set_cons_succ]
       refine wpAnyH_done (by decide +kernel) ?_ _;have E0:=Lib.hid (SH.out.next HB.out);clear hS0 hS1 tc hS3;have MC1:=Lib.hid (fun W1 (h1:Mk g fv F (u) W1)=>B5 hF h1 (hBu.mono (by omega)) (bC hw))
       rotate_left
       all_goals (
         go_wp2_with (
           (go_at_call 89;with_reducible refine(MC1.out _ E0.out.m).mono (Mz.k E0 fun mw1 M1=>?_)))
         refine⟨⟨_,_,rfl,hBu.gd hy.1,HS2.out,M1.out⟩,?_⟩;rw[M1.out.m.pOf,HP.out]
         have:=hy.2
         have:=hy.1.N
         omega)
      ·have h2:eK F u=T:=by
         rcases HS.out.w with ⟨h1,h2⟩|⟨h1,h2⟩
         ·cases h1
         ·exact h2
       have hsm:Sm F T (aD 7 u) true:=⟨.inr ⟨rfl,(AV hBu.p hb hw).symm.trans h2⟩⟩;have HS2:=Lib.hid hsm;clear hsm h2;have hy:=wZ hw;have NC1:=Lib.hid (fun W1 (h1:Mk g fv F (u) W1)=>eU hF h1 (hBu.mono (by omega)) hb);have NC2:=Lib.hid (fun W1 (h1:Mk g fv F (u) W1)=>dH hF h1 hBu.p hw)
       go_upto_region 5 with (first
         | (go_at_call 192;with_reducible refine(NC1.out _ U0.out.m).mono (Mz.k U0 fun nw1 N1=>?_))
         | (go_at_call 196;with_reducible refine(NC2.out _ N1.out.m).mono (Mz.k N1 fun nw2 N2=>?_))
         | fail)
       have SH:=Lib.hid N2.out;obtain⟨y0,y1,y3,y4,_⟩:=SH.out.m.cells;clear y0 y1 y3 y4;obtain⟨S0,hS0⟩:∃S0:World→Prop,S0=fun w'=>Below nw2.heap.size nw2 w':=⟨_,rfl⟩
       refine wp_region_held (S:=S0) hmix ?_;show wpAnyH _ _ _ _ _ _ _ _ nw2.drew;have hS1:S0 nw2.drew:=by rw[hS0];exact(Below.refl _ nw2).drew
       have tc:∀(w':World),S0 w'→∀(a:Addr) (v:Value),nw2.cell? a=some v→w'.cell? a=some v:=fun w' h a v hc=>wj (by rw[hS0] at h;exact h) hc
       refine tk 0 (.bool true) hS1 (fun w' hS=>?_) ?_
       ·go_simp
       try simp only[Act.put,List.getElem_toArray,List.getElem_cons_succ,List.getElem_cons_zero,List.setIfInBounds_toArray,List.set_cons_zero,List.set_cons_succ]
       refine tk 1 (.bool false) hS1 (fun w' hS=>?_) ?_
       ·go_simp
       try simp only[Act.put,List.getElem_toArray,List.getElem_cons_succ,List.getElem_cons_zero,List.setIfInBounds_toArray,List.set_cons_zero,List.set_cons_succ]
       refine tk 2 (.bool false) hS1 (fun w' hS=>?_) ?_
       ·go_simp
       try simp only[Act.put,List.getElem_toArray,List.getElem_cons_succ,List.getElem_cons_zero,List.setIfInBounds_toArray,List.set_cons_zero,List.set_cons_succ]
       refine sk 3 hS1 ?_;try simp only[Act.put,List.getElem_toArray,List.getElem_cons_succ,List.getElem_cons_zero,List.setIfInBounds_toArray,List.set_cons_zero,List.set_cons_succ]
       refine sk 4 hS1 ?_;try simp only[Act.put,List.getElem_toArray,List.getElem_cons_succ,List.getElem_cons_zero,List.setIfInBounds_toArray,List.set_cons_zero,List.set_cons_succ]
       refine sk 5 hS1 ?_;try simp only[Act.put,List.getElem_toArray,List.getElem_cons_succ,List.getElem_cons_zero,List.setIfInBounds_toArray,List.set_cons_zero,List.set_cons_succ]
       refine sk 6 hS1 ?_;try simp only[Act.put,List.getElem_toArray,List.getElem_cons_succ,List.getElem_cons_zero,List.setIfInBounds_toArray,List.set_cons_zero,List.set_cons_succ]
       refine sk 7 hS1 ?_;try simp only[Act.put,List.getElem_toArray,List.getElem_cons_succ,List.getElem_cons_zero,List.setIfInBounds_toArray,List.set_cons_zero,List.set_cons_succ]
       refine sk 8 hS1 ?_;try simp only[Act.put,List.getElem_toArray,List.getElem_cons_succ,List.getElem_cons_zero,List.setIfInBounds_toArray,List.set_cons_zero,List.set_cons_succ]
       refine sk 9 hS1 ?_;try simp only[Act.put,List.getElem_toArray,List.getElem_cons_succ,List.getElem_cons_zero,List.setIfInBounds_toArray,List.set_cons_zero,List.set_cons_succ]
       refine sk 10 hS1 ?_;try simp only[Act.put,List.getElem_toArray,List.getElem_cons_succ,List.getElem_cons_zero,List.setIfInBounds_toArray,List.set_cons_zero,List.set_cons_succ]
       refine sk 11 hS1 ?_;try simp only[Act.put,List.getElem_toArray,List.getElem_cons_succ,List.getElem_cons_zero,List.setIfInBounds_toArray,List.set_cons_zero,List.set_cons_succ]
       refine sk 12 hS1 ?_;try simp only[Act.put,List.getElem_toArray,List.getElem_cons_succ,List.getElem_cons_zero,List.setIfInBounds_toArray,List.set_cons_zero,List.set_cons_succ]
       refine sk 13 hS1 ?_;try simp only[Act.put,List.getElem_toArray,List.getElem_cons_succ,List.getElem_cons_zero,List.setIfInBounds_toArray,List.set_cons_zero,List.set_cons_succ]
       refine sk 14 hS1 ?_;try simp only[Act.put,List.getElem_toArray,List.getElem_cons_succ,List.getElem_cons_zero,List.setIfInBounds_toArray,List.set_cons_zero,List.set_cons_succ]
       refine tk 15 (.bool false) hS1 (fun w' hS=>?_) ?_
       ·go_simp
       try simp only[Act.put,List.getElem_toArray,List.getElem_cons_succ,List.getElem_cons_zero,List.setIfInBounds_toArray,List.set_cons_zero,List.set_cons_succ]
       refine tk 16 (.bool false) hS1 (fun w' hS=>?_) ?_
       ·go_simp
       try simp only[Act.put,List.getElem_toArray,List.getElem_cons_succ,List.getElem_cons_zero,List.setIfInBounds_toArray,List.set_cons_zero,List.set_cons_succ]
       refine wpAnyH_done (by decide +kernel) ?_ _;have E0:=Lib.hid (SH.out.next (Below.refl _ _).drew);clear hS0 hS1 tc;have MC1:=Lib.hid (fun W1 (h1:Mk g fv F (u) W1)=>gu hF h1 (hBu.mono (by omega)) (bC hw));go_wp2_with (
         (go_at_call 89;with_reducible refine(MC1.out _ E0.out.m).mono (Mz.k E0 fun mw1 M1=>?_)))
       refine⟨⟨_,_,rfl,hBu.gd hy.1,HS2.out,M1.out⟩,?_⟩;rw[M1.out.m.pOf,HP.out]
       have:=hy.2
       have:=hy.1.N
       omega
    ·have hy:=iY hb;have hsm:Sm F T (cD F u) b:=by
       rcases HS.out.w with ⟨h1,h2⟩|⟨h1,h2⟩
       ·exact⟨.inl ⟨h1,(AQ hBu.p hb).symm.trans h2⟩⟩
       ·exact⟨.inr ⟨h1,(AW hBu.p hb).symm.trans h2⟩⟩
     have HS2:=Lib.hid hsm;clear hsm;have NC1:=Lib.hid (fun W1 (h1:Mk g fv F (u) W1)=>lZ hF h1 (hBu.mono (by omega)) hb);go_wp2_with (
       (go_at_call 192;with_reducible refine(NC1.out _ U0.out.m).mono (Mz.k U0 fun nw1 N1=>?_)))
     refine⟨⟨_,_,rfl,hBu.gd hy.1,HS2.out,N1.out⟩,?_⟩;rw[N1.out.m.pOf,HP.out]
     have:=hy.2
     have:=hy.1.N
     omega
theorem zH (hF:FB F) (hL:GL F L) (HL:cJ g fv F L q) (h:Mk g fv F s W) (hq:q≤s.p+1) (hB:Bd F 28 s) :
    f9 160 g fv F W (.tuple #[]) (jE F L s):=by
  obtain⟨T,hT⟩:∃T,T=jE F L s:=⟨_,rfl⟩;rw[←hT];have HT:=Lib.hid hT;clear hT;have hg1:=dk (F:=F) hB.p;have hB1:=hB.gd hg1;have hg2:=bX (F:=F) (cs:=[40]) (by decide) hB1.p;have hB2:=hB1.gd hg2;have hg3:=bj (F:=F) (c:=41) (by decide) hB2.p;have hB3:=hB2.gd hg3;have hg4:=ar (F:=F) hB3.p;have hB4:=hB3.gd hg4;have hq4:q≤(ac F (aI F 41 (aG F [40] (aU F s)))).p+1:=Nat.le_trans hq (Nat.succ_le_succ (Nat.le_trans hg1.p (Nat.le_trans hg2.p (Nat.le_trans hg3.p hg4.p))));go_enter Tryz.func160,Tryz.ntmps160
  cases hb:cH F (ac F (aI F 41 (aG F [40] (aU F s))))
  ·have HC1:=Lib.hid (fun W1 (h1:Mk g fv F (s) W1)=>jn hF h1 (hB.mono (by omega)));have HC2:=Lib.hid (fun W1 (h1:Mk g fv F (aU F s) W1)=>gw hF h1 hB1.p [40] (by decide));have HC3:=Lib.hid (fun W1 (h1:Mk g fv F (aG F [40] (aU F s)) W1)=>dA hF h1 (hB2.mono (by omega)) 41 (by decide));have HC4:=Lib.hid (fun W1 (h1:Mk g fv F (aI F 41 (aG F [40] (aU F s))) W1)=>bF hF h1 hB3.p);have HC5:=Lib.hid (fun W1 (h1:Mk g fv F (ac F (aI F 41 (aG F [40] (aU F s)))) W1)=>fB hF h1 hB4.p hb);have HC6:=Lib.hid (fun W1 (h1:Mk g fv F (ac F (aI F 41 (aG F [40] (aU F s)))) W1)=>bP hF h1 (hB4.mono (by omega)));have H0:=Lib.hid (Mz.start h);clear h
   go_wp2_with (first
     | (go_at_call 194;with_reducible refine(HC1.out _ H0.out.m).mono (Mz.k H0 fun hw1 H1=>?_))
     | (go_at_call 87;with_reducible refine(HC2.out _ H1.out.m).mono (Mz.k H1 fun hw2 H2=>?_))
     | (go_at_call 195;with_reducible refine(HC3.out _ H2.out.m).mono (Mz.k H2 fun hw3 H3=>?_))
     | (go_at_call 106;with_reducible refine(HC4.out _ H3.out.m).mono (Mz.k H3 fun hw4 H4=>?_))
     | (go_at_call 98;with_reducible refine(HC5.out _ H4.out.m).mono (Mz.k H4 fun hw5 H5=>?_))
     | (go_at_call 133;with_reducible refine(HC6.out _ H5.out.m).mono (Mz.k H5 fun hw6 H6=>?_))
     | fail)
   first|go_end0|refine bn ?_
   refine⟨rfl,?_⟩;rw[HT.out];unfold jE;simp only;rw[if_neg (by rw[hb];decide)];exact H6.out
  ·have HC1:=Lib.hid (fun W1 (h1:Mk g fv F (s) W1)=>jn hF h1 (hB.mono (by omega)));have HC2:=Lib.hid (fun W1 (h1:Mk g fv F (aU F s) W1)=>gw hF h1 hB1.p [40] (by decide));have HC3:=Lib.hid (fun W1 (h1:Mk g fv F (aG F [40] (aU F s)) W1)=>dA hF h1 (hB2.mono (by omega)) 41 (by decide));have HC4:=Lib.hid (fun W1 (h1:Mk g fv F (aI F 41 (aG F [40] (aU F s))) W1)=>bF hF h1 hB3.p);have HC5:=Lib.hid (fun W1 (h1:Mk g fv F (ac F (aI F 41 (aG F [40] (aU F s)))) W1)=>lg hF h1 hB4.p hb);have HC6:=Lib.hid (fun W1 (h1:Mk g fv F (ac F (aI F 41 (aG F [40] (aU F s)))) W1)=>nQ hF hL HL h1 hq4 (hB4.mono (by omega)) hb);have H0:=Lib.hid (Mz.start h);clear h
   go_wp2_with (first
     | (go_at_call 194;with_reducible refine(HC1.out _ H0.out.m).mono (Mz.k H0 fun hw1 H1=>?_))
     | (go_at_call 87;with_reducible refine(HC2.out _ H1.out.m).mono (Mz.k H1 fun hw2 H2=>?_))
     | (go_at_call 195;with_reducible refine(HC3.out _ H2.out.m).mono (Mz.k H2 fun hw3 H3=>?_))
     | (go_at_call 106;with_reducible refine(HC4.out _ H3.out.m).mono (Mz.k H3 fun hw4 H4=>?_))
     | (go_at_call 98;with_reducible refine(HC5.out _ H4.out.m).mono (Mz.k H4 fun hw5 H5=>?_))
     | (go_at_call 157;with_reducible refine(HC6.out _ H5.out.m).mono (Mz.k H5 fun hw6 H6=>?_))
     | fail)
   first|go_end0|refine bn ?_
   refine⟨rfl,?_⟩;rw[HT.out];unfold jE;simp only;rw[if_pos hb];exact H6.out
theorem BS (hF:FB F) (hL:GL F L) (HL:cJ g fv F L q) (h:Mk g fv F s W) (hq:q≤s.p+1) (hB:Bd F 26 s) (hf:my F s=true) :
    Calls Tryz.prog 159 #[.pointer (some ⟨g,0,none⟩),.int .i64 16,.func (.func 160) #[.pointer (some ⟨g,0,none⟩)] #[]] W fun e w'=>e=.returned (.tuple #[])∧Mz g fv F W (gL 16 (jE F L) s) w':=by
  have hx:sg F s.p=120∧s.deep<200:=by unfold my at hf;simp at hf;exact⟨hf.1,hf.2.2.1⟩
  have hi:Bd F 27 (ma 16 {s with deep:=s.deep+1}):=⟨hB.p,by have:=hB.l;show (s.l++[_]).length≤46*s.p+27;rw[List.length_append];show s.l.length+1≤_;omega,by show s.deep+1≤200;omega⟩;have hg:=(yZ hL (s:=ma 16 {s with deep:=s.deep+1}) hx.1).1;have hn:=hF.n;have h1:=hg.l;have h2:=hg.N;have h3:=hg.dp;have l1:(ma 16 {s with deep:=s.deep+1}).l.length=s.l.length+1:=by show (s.l++[_]).length=_;simp
  exact rI (s:=s) (t:=jE F L (ma 16 {s with deep:=s.deep+1})) 16 _ #[.pointer (some ⟨g,0,none⟩)] #[] h (hB.l5 hF (by omega)) (by omega) (by omega) (enters_of Tryz.func160 (by kernel_rfl) rfl)
    (fun W1 z1=>zH hF hL HL z1.m hq (hi.mono (by omega))) (by omega) (by omega) (h3.trans rfl)
theorem BR (hF:FB F) (h:Mk g fv F s W) (hB:Bd F 26 s) :
    Calls Tryz.prog 64 #[.pointer (some ⟨g,0,none⟩),.int .i64 5,.func (.func 161) #[.pointer (some ⟨g,0,none⟩)] #[]] W fun e w'=>e=.returned (.tuple #[])∧Mz g fv F W (an 5 (dJ F) s) w':=by
  have hi:=hB.inn 5;have hg:=uR (F:=F) hi.p;have hn:=hF.n;have h1:=hg.l;have h2:=hg.N;rw[jq] at h1;exact pV (t:=dJ F (ma 5 s)) 5 _ h (hB.l5 hF (by omega)) (by omega) (enters_of Tryz.func161 (by kernel_rfl) rfl) (fun W1 z1=>xc hF z1.m hi) (by omega) (by omega)
theorem oV (hF:FB F) (hL:GL F L) (HL:cJ g fv F L q) (h:Mk g fv F s W) (hq:q≤s.p+1) (hB:Bd F 26 s) :
    f9 135 g fv F W (.tuple #[]) (gT F L s):=by
  obtain⟨T,hT⟩:∃T,T=gT F L s:=⟨_,rfl⟩;rw[←hT];have HT:=Lib.hid hT;clear hT;go_enter Tryz.func135,Tryz.ntmps135
  cases hb:cH F s
  ·cases hf:my F s
   ·cases hc:lR F s
    ·have HC1:=Lib.hid (fun W1 (h1:Mk g fv F (s) W1)=>fB hF h1 hB.p hb);have HC2:=Lib.hid (fun W1 (h1:Mk g fv F (s) W1)=>me hF h1 hB.p hf);have HC3:=Lib.hid (fun W1 (h1:Mk g fv F (s) W1)=>ss hF h1 hB.p hc);have HC4:=Lib.hid (fun W1 (h1:Mk g fv F (s) W1)=>bP hF h1 (hB.mono (by omega)));have H0:=Lib.hid (Mz.start h);clear h
     go_wp2_with (first
       | (go_at_call 98;with_reducible refine(HC1.out _ H0.out.m).mono (Mz.k H0 fun hw1 H1=>?_))
       | (go_at_call 158;with_reducible refine(HC2.out _ H1.out.m).mono (Mz.k H1 fun hw2 H2=>?_))
       | (go_at_call 76;with_reducible refine(HC3.out _ H2.out.m).mono (Mz.k H2 fun hw3 H3=>?_))
       | (go_at_call 133;with_reducible refine(HC4.out _ H3.out.m).mono (Mz.k H3 fun hw4 H4=>?_))
       | fail)
     first|go_end0|refine bn ?_
     refine⟨rfl,?_⟩;rw[HT.out];unfold gT;rw[if_neg (by rw[hb];decide),if_neg (by rw[hf];decide),if_neg (by rw[hc];decide)];exact H4.out
    ·have HC1:=Lib.hid (fun W1 (h1:Mk g fv F (s) W1)=>fB hF h1 hB.p hb);have HC2:=Lib.hid (fun W1 (h1:Mk g fv F (s) W1)=>me hF h1 hB.p hf);have HC3:=Lib.hid (fun W1 (h1:Mk g fv F (s) W1)=>sr hF h1 hB.p hc);have HC4:=Lib.hid (fun W1 (h1:Mk g fv F (s) W1)=>BR hF h1 hB);have H0:=Lib.hid (Mz.start h);clear h
     go_wp2_with (first
       | (go_at_call 98;with_reducible refine(HC1.out _ H0.out.m).mono (Mz.k H0 fun hw1 H1=>?_))
       | (go_at_call 158;with_reducible refine(HC2.out _ H1.out.m).mono (Mz.k H1 fun hw2 H2=>?_))
       | (go_at_call 76;with_reducible refine(HC3.out _ H2.out.m).mono (Mz.k H2 fun hw3 H3=>?_))
       | (go_at_call 64;with_reducible refine(HC4.out _ H3.out.m).mono (Mz.k H3 fun hw4 H4=>?_))
       | fail)
     first|go_end0|refine bn ?_
     refine⟨rfl,?_⟩;rw[HT.out];unfold gT;rw[if_neg (by rw[hb];decide),if_neg (by rw[hf];decide),if_pos hc];exact H4.out
   ·have HC1:=Lib.hid (fun W1 (h1:Mk g fv F (s) W1)=>fB hF h1 hB.p hb);have HC2:=Lib.hid (fun W1 (h1:Mk g fv F (s) W1)=>rU hF h1 hB.p hf);have HC3:=Lib.hid (fun W1 (h1:Mk g fv F (s) W1)=>BS hF hL HL h1 hq hB hf);have H0:=Lib.hid (Mz.start h);clear h
    go_wp2_with (first
      | (go_at_call 98;with_reducible refine(HC1.out _ H0.out.m).mono (Mz.k H0 fun hw1 H1=>?_))
      | (go_at_call 158;with_reducible refine(HC2.out _ H1.out.m).mono (Mz.k H1 fun hw2 H2=>?_))
      | (go_at_call 159;with_reducible refine(HC3.out _ H2.out.m).mono (Mz.k H2 fun hw3 H3=>?_))
      | fail)
    first|go_end0|refine bn ?_
    refine⟨rfl,?_⟩;rw[HT.out];unfold gT;rw[if_neg (by rw[hb];decide),if_pos hf];exact H3.out
  ·have HC1:=Lib.hid (fun W1 (h1:Mk g fv F (s) W1)=>lg hF h1 hB.p hb);have HC2:=Lib.hid (fun W1 (h1:Mk g fv F (s) W1)=>nQ hF hL HL h1 hq (hB.mono (by omega)) hb);have H0:=Lib.hid (Mz.start h);clear h
   go_wp2_with (first
     | (go_at_call 98;with_reducible refine(HC1.out _ H0.out.m).mono (Mz.k H0 fun hw1 H1=>?_))
     | (go_at_call 157;with_reducible refine(HC2.out _ H1.out.m).mono (Mz.k H1 fun hw2 H2=>?_))
     | fail)
   first|go_end0|refine bn ?_
   refine⟨rfl,?_⟩;rw[HT.out];unfold gT;rw[if_pos hb];exact H2.out
theorem BF (hF:FB F) (hL:GL F L) (HL:cJ g fv F L q) (h:Mk g fv F s W) (hq:q≤s.p+1) (hB:Bd F 25 s) (hb0:Bk W bx 101 #[.pointer (some ⟨g,0,none⟩)]) :
    Calls Tryz.prog 134 #[.pointer (some ⟨bx,0,none⟩)] W fun e w'=>e=.returned (.tuple #[])∧Mz g fv F W (ii F L s) w':=by
  obtain⟨T,hT⟩:∃T,T=ii F L s:=⟨_,rfl⟩;rw[←hT];have HT:=Lib.hid hT;clear hT;have hg1:=bX (F:=F) (cs:=[33]) (by decide) hB.p;have hB1:=hB.gd hg1;have hq1:q≤(aG F [33] s).p+1:=Nat.le_trans hq (Nat.succ_le_succ hg1.p);have hg2:=lN hL hB1.p;have hB2:=hB1.gd hg2;have hq2:q≤(gT F L (aG F [33] s)).p+1:=Nat.le_trans hq1 (Nat.succ_le_succ hg2.p);have HBX:=Lib.hid hb0;clear hb0;have b0:=HBX.out.cell 0;have HC1:=Lib.hid (fun W1 (h1:Mk g fv F (s) W1)=>gw hF h1 hB.p [33] (by decide));have HC2:=Lib.hid (fun W1 (h1:Mk g fv F (aG F [33] s) W1)=>oV hF hL HL h1 hq1 (hB1.mono (by omega)));have H0:=Lib.hid (Mz.start h);clear h;go_enter Tryz.func134,Tryz.ntmps134
  go_wp2_with (first
    | (go_at_call 87;with_reducible refine(HC1.out _ H0.out.m).mono ?_
       rintro e hw1 ⟨rfl,hz⟩;have H1:=Lib.hid (H0.out.then hz);have b0:=(Bk.kt HBX.out H1.out.f.kt (by decide)).cell 0;clear hz)
    | (go_at_call 135;with_reducible refine(HC2.out _ H1.out.m).mono ?_
       rintro e hw2 ⟨rfl,hz⟩;have H2:=Lib.hid (H1.out.then hz);have b0:=(Bk.kt HBX.out H2.out.f.kt (by decide)).cell 0;clear hz)
    | fail)
  go_loopw [] (fun wr=>∃u:Ps,q≤u.p+1∧Bd F 26 u∧(aZ F.length (fun s=>if am F [124] s=true then (gT F L (ac F (ai s)),true) else (s,false))) u=(aZ F.length (fun s=>if am F [124] s=true then (gT F L (ac F (ai s)),true) else (s,false))) (gT F L (aG F [33] s))∧Mz g fv F W u wr) (fun wr=>F.length-pOf g wr)
  case atStart=>exact⟨_,hq2,hB2,rfl,H2.out⟩
  case round=>
    obtain⟨u,hqu,hBu,hlu,hz⟩:=hrel;have U0:=Lib.hid hz;have HU:=Lib.hid hlu;have hup:=hz.m.pOf;have HP:=Lib.hid hup;clear hz hlu hup
    cases hb:am F [124] u
    ·have HE:=Lib.hid (HU.out.symm.trans (LC.stepn (gk hL) hBu.p (t:=u) (by show (if _ then _ else _)=_;rw[if_neg (by rw[hb];decide)])));have NC1:=Lib.hid (fun W1 (h1:Mk g fv F (u) W1)=>bB hF h1 hBu.p [124] (by decide) hb);have b0:=(Bk.kt HBX.out U0.out.f.kt (by decide)).cell 0;go_wp2_with (
       (go_at_call 87;with_reducible refine(NC1.out _ U0.out.m).mono ?_
        rintro e nw1 ⟨rfl,hz⟩;have N1:=Lib.hid (U0.out.then hz);have b0:=(Bk.kt HBX.out N1.out.f.kt (by decide)).cell 0;clear hz))
     first|go_end0|refine bn ?_
     refine⟨rfl,?_⟩;rw[HT.out];unfold ii;rw[HE.out];exact N1.out
    ·have hy:=LC.y ((gk hL) u hBu.p) (t:=gT F L (ac F (ai u))) (by show (if _ then _ else _)=_;rw[if_pos hb]);have HE:=Lib.hid ((LC.stepy (gk hL) hBu.p (t:=gT F L (ac F (ai u))) (by show (if _ then _ else _)=_;rw[if_pos hb])).symm.trans HU.out);have hlt:=au hb (by decide);have hn1:=hBu.next hlt (by omega);have hg4:=ar (F:=F) hn1.p;have hB4:=hn1.gd hg4;have hq4:q≤(ac F (ai u)).p+1:=Nat.le_trans hqu (Nat.succ_le_succ (Nat.le_trans (Nat.le_succ _) hg4.p));have YC1:=Lib.hid (fun W1 (h1:Mk g fv F (u) W1)=>bW hF h1 hBu.p [124] (by decide) hb);have YC2:=Lib.hid (fun W1 (h1:Mk g fv F (ai u) W1)=>bF hF h1 hn1.p);have YC3:=Lib.hid (fun W1 (h1:Mk g fv F (ac F (ai u)) W1)=>oV hF hL HL h1 hq4 (hB4.mono (by omega)));have b0:=(Bk.kt HBX.out U0.out.f.kt (by decide)).cell 0
     go_wp2_with (first
       | (go_at_call 87;with_reducible refine(YC1.out _ U0.out.m).mono ?_
          rintro e yw1 ⟨rfl,hz⟩;have Y1:=Lib.hid (U0.out.then hz);have b0:=(Bk.kt HBX.out Y1.out.f.kt (by decide)).cell 0;clear hz)
       | (go_at_call 106;with_reducible refine(YC2.out _ Y1.out.m).mono ?_
          rintro e yw2 ⟨rfl,hz⟩;have Y2:=Lib.hid (Y1.out.then hz);have b0:=(Bk.kt HBX.out Y2.out.f.kt (by decide)).cell 0;clear hz)
       | (go_at_call 135;with_reducible refine(YC3.out _ Y2.out.m).mono ?_
          rintro e yw3 ⟨rfl,hz⟩;have Y3:=Lib.hid (Y2.out.then hz);have b0:=(Bk.kt HBX.out Y3.out.f.kt (by decide)).cell 0;clear hz)
       | fail)
     refine⟨⟨_,Nat.le_trans hqu (Nat.succ_le_succ (Nat.le_of_lt hy.2)),hBu.gd hy.1,HE.out,Y3.out⟩,?_⟩;rw[Y3.out.m.pOf,HP.out]
     have:=hy.2
     have:=hy.1.N
     omega
theorem x8 (hF:FB F) (hL:GL F L) (HL:cJ g fv F L q) (h:Mk g fv F s W) (hq:q≤s.p+1) (hB:Bd F 24 s) :
    f9 113 g fv F W (.tuple #[]) (jA F L s):=by
  have hx:∀W0,Mk g fv F s W0→∀bx,Bk W0 bx 101 #[.pointer (some ⟨g,0,none⟩)]→Calls Tryz.prog 64 #[.pointer (some ⟨g,0,none⟩),.int .i64 4,.func (.func 134) #[] #[.pointer (some ⟨bx,0,none⟩)]] W0 fun e w'=>e=.returned (.tuple #[])∧Mz g fv F W0 (an 4 (ii F L) s) w':=fun W0 h0 bx hbx=>by
    have hi:=hB.inn 4;have hg:=rR hL hi.p;have hn:=hF.n;have h1:=hg.l;have h2:=hg.N;rw[jq] at h1;exact lI (t:=ii F L (ma 4 s)) 4 _ #[] #[.pointer (some ⟨bx,0,none⟩)] h0 (hB.l5 hF (by omega)) (by omega) (enters_of Tryz.func134 (by kernel_rfl) rfl) (fun W1 h1=>BF hF hL HL h1.m hq hi (h1.box hbx (by decide))) (by omega) (by omega)
  have HX:=Lib.hid hx;have H0:=Lib.hid (Mz.start h);clear hx;obtain⟨T,hT⟩:∃T,T=jA F L s:=⟨_,rfl⟩;rw[←hT];have HT:=Lib.hid hT;clear hT
  cases hb:bH F s
  ·have HC1:=Lib.hid (fun W1 (h1:Mk g fv F s W1)=>iS hF h1 hB.p hb);have HC2:=Lib.hid (fun W1 (h1:Mk g fv F s W1)=>bP hF h1 (hB.mono (by omega)));clear h;go_enter Tryz.func113,Tryz.ntmps113;go_upto_region 1 with fail
   refine gQ fun W0 hb0 k0 hs0=>?_
   have HBX:=Lib.hid k0;have b0:=HBX.out.cell 0;have H1:=Lib.hid (H0.out.next hb0);have HZ:=Lib.hid (Mz.start H1.out.m);clear hb0 k0 hs0
   go_wp2_with (first
     | (go_at_call 53;with_reducible refine(HC1.out _ HZ.out.m).mono ?_
        rintro e w1 ⟨rfl,hz⟩;have H2:=Lib.hid (HZ.out.then hz);have b0:=(Bk.kt HBX.out H2.out.f.kt (by decide)).cell 0;clear hz)
     | (go_at_call 133;with_reducible refine(HC2.out _ H2.out.m).mono (Mz.k H2 fun w2 H3=>?_))
     | fail)
   first|go_end0|refine bn ?_
   refine⟨rfl,?_⟩;rw[HT.out];unfold jA;rw[if_neg (by rw[hb];decide)];exact H1.out.then H3.out
  ·have HC1:=Lib.hid (fun W1 (h1:Mk g fv F s W1)=>iR hF h1 hB.p hb);have HC2:=Lib.hid (fun W1 (h1:Mk g fv F s W1)=>bP hF h1 (hB.mono (by omega)));clear h;go_enter Tryz.func113,Tryz.ntmps113;go_upto_region 1 with fail
   refine gQ fun W0 hb0 k0 hs0=>?_
   have HBX:=Lib.hid k0;have b0:=HBX.out.cell 0;have H1:=Lib.hid (H0.out.next hb0);have HZ:=Lib.hid (Mz.start H1.out.m);clear hb0 k0 hs0
   go_wp2_with (first
     | (go_at_call 53;with_reducible refine(HC1.out _ HZ.out.m).mono ?_
        rintro e w1 ⟨rfl,hz⟩;have H2:=Lib.hid (HZ.out.then hz);have b0:=(Bk.kt HBX.out H2.out.f.kt (by decide)).cell 0;clear hz)
     | (go_at_call 64;refine(HX.out _ H2.out.m _ (Bk.kt HBX.out H2.out.f.kt (by decide))).mono ?_;rintro e w2 ⟨rfl,hz⟩;have H3:=Lib.hid (H2.out.then hz);clear hz)
     | fail)
   first|go_end0|refine bn ?_
   refine⟨rfl,?_⟩;rw[HT.out];unfold jA;rw[if_pos hb];exact H1.out.then H3.out
theorem CM (hF:FB F) (hL:GL F L) (HL:cJ g fv F L q) (h:Mk g fv F s W) (hq:q≤s.p+1) (hB:Bd F 24 s) :
    f9 100 g fv F W (.tuple #[]) (bv F L s):=by
  obtain⟨T,hT⟩:∃T,T=bv F L s:=⟨_,rfl⟩;rw[←hT];have HT:=Lib.hid hT;clear hT;have hg2:=lL hL hB.p;have hB2:=hB.gd hg2;have hq2:q≤(jA F L s).p+1:=Nat.le_trans hq (Nat.succ_le_succ hg2.p);have HC1:=Lib.hid (fun W1 (h1:Mk g fv F (s) W1)=>x8 hF hL HL h1 hq hB);have H0:=Lib.hid (Mz.start h);clear h;go_enter Tryz.func100,Tryz.ntmps100;go_wp2_with (
    (go_at_call 113;with_reducible refine(HC1.out _ H0.out.m).mono (Mz.k H0 fun hw1 H1=>?_)))
  go_loopw [] (fun wr=>∃u:Ps,q≤u.p+1∧Bd F 26 u∧(aZ F.length (fun s=>if am F [97,111] s=true then (jA F L (ac F (ai s)),true) else (s,false))) u=(aZ F.length (fun s=>if am F [97,111] s=true then (jA F L (ac F (ai s)),true) else (s,false))) (jA F L s)∧Mz g fv F W u wr) (fun wr=>F.length-pOf g wr)
  case atStart=>exact⟨_,hq2,hB2,rfl,H1.out⟩
  case round=>
    obtain⟨u,hqu,hBu,hlu,hz⟩:=hrel;have U0:=Lib.hid hz;have HU:=Lib.hid hlu;have hup:=hz.m.pOf;have HP:=Lib.hid hup;clear hz hlu hup
    cases hb:am F [97,111] u
    ·have HE:=Lib.hid (HU.out.symm.trans (LC.stepn (mi hL) hBu.p (t:=u) (by show (if _ then _ else _)=_;rw[if_neg (by rw[hb];decide)])));have NC1:=Lib.hid (fun W1 (h1:Mk g fv F (u) W1)=>bB hF h1 hBu.p [97,111] (by decide) hb);go_wp2_with (
       (go_at_call 87;with_reducible refine(NC1.out _ U0.out.m).mono (Mz.k U0 fun nw1 N1=>?_)))
     first|go_end0|refine bn ?_
     refine⟨rfl,?_⟩;rw[HT.out];unfold bv;rw[HE.out];exact N1.out
    ·have hy:=LC.y ((mi hL) u hBu.p) (t:=jA F L (ac F (ai u))) (by show (if _ then _ else _)=_;rw[if_pos hb]);have HE:=Lib.hid ((LC.stepy (mi hL) hBu.p (t:=jA F L (ac F (ai u))) (by show (if _ then _ else _)=_;rw[if_pos hb])).symm.trans HU.out);have hlt:=au hb (by decide);have hn1:=hBu.next hlt (by omega);have hg4:=ar (F:=F) hn1.p;have hB4:=hn1.gd hg4;have hq4:q≤(ac F (ai u)).p+1:=Nat.le_trans hqu (Nat.succ_le_succ (Nat.le_trans (Nat.le_succ _) hg4.p));have YC1:=Lib.hid (fun W1 (h1:Mk g fv F (u) W1)=>bW hF h1 hBu.p [97,111] (by decide) hb);have YC2:=Lib.hid (fun W1 (h1:Mk g fv F (ai u) W1)=>bF hF h1 hn1.p);have YC3:=Lib.hid (fun W1 (h1:Mk g fv F (ac F (ai u)) W1)=>x8 hF hL HL h1 hq4 (hB4.mono (by omega)))
     go_wp2_with (first
       | (go_at_call 87;with_reducible refine(YC1.out _ U0.out.m).mono (Mz.k U0 fun yw1 Y1=>?_))
       | (go_at_call 106;with_reducible refine(YC2.out _ Y1.out.m).mono (Mz.k Y1 fun yw2 Y2=>?_))
       | (go_at_call 113;with_reducible refine(YC3.out _ Y2.out.m).mono (Mz.k Y2 fun yw3 Y3=>?_))
       | fail)
     refine⟨⟨_,Nat.le_trans hqu (Nat.succ_le_succ (Nat.le_of_lt hy.2)),hBu.gd hy.1,HE.out,Y3.out⟩,?_⟩;rw[Y3.out.m.pOf,HP.out]
     have:=hy.2
     have:=hy.1.N
     omega
end Go.Proofs.YtfagdpfgifgnoaaGreatDoor
