/- The parser: compounds. -/
import Derived.Test.YtcagfamdoaoimaaGreatDoorPw13
import Derived.Laws.EntriesVeiled
set_option linter.unusedVariables false
set_option linter.unusedSimpArgs false
set_option maxRecDepth 100000
set_option maxHeartbeats 8000000
namespace Go.Proofs.YtcagfamdoaoimaaGreatDoor
open Go.RowKit
variable {cs ds:Array Value} {F:List Lf} {a b g q bx by_ fX k:Nat} {u s:Ps} {L X:Ps→Ps} {t ty:TypeId} {fv v:Value} {w W W1:World}
theorem Mf {u:TypeId} (h:Bk w a t cs) (k:Bk w b u ds) (hne:t≠u):a≠b:=by
  rintro rfl;unfold Bk at h k;rw[h] at k;injection k with k
  injection k with _ k
  exact hne k
theorem Mz.setNew (h:Mz g fv F W s W1) (hk:Bk W1 b ty cs) (hb:W.heap.size≤b) (hg:g≤b) (ht:ty∉[88,56]) (hl:29≠ty) :
    Mz g fv F W s (W1.setCell ⟨b,0,none⟩ v):=by
  obtain⟨lv,h1,h2⟩:=h.m.w;have e1:88≠ty:=fun e=>ht (by rw[←e];simp)
  have e2:56≠ty:=fun e=>ht (by rw[←e];simp)
  have hne:g≠b:=Mf h1 hk e1;refine⟨⟨⟨lv,h1.far (p:=⟨b,0,none⟩) hne v,ff h2 (eQ h2 hk e2) v⟩,h.m.f.keep ((aC g W1).setCell (p:=⟨b,0,none⟩) hg v) (au _)⟩,⟨h.f.hb.setCell (p:=⟨b,0,none⟩) hg v,fun k o hk1 ho=>?_⟩⟩;have h3:=(aM.1 hk1).1
  exact(bK _ _ _ k (by show k≠b;omega)).trans (h.f.kt k o hk1 ho)
theorem GY (hF:FB F) (hL:GL F L) (HL:gH g fv F L q) (h:Mk g fv F s W) (hq:q≤s.p) (hB:Bd F 0 s) :
    lD 254 g fv F W (.tuple #[]) (gF F L s):=by
  cases hw:iM F s.p
  ·exact J1 hF hL HL h hq hB hw
  ·cases hn:i4 (tx F s.p)
   ·exact JZ hF hL HL h hq hB hw hn
   ·exact JY hF hL HL h hq hB hw hn
theorem lk (hF:FB F) (h:Mk g fv F s W) (hs:s.p<F.length) (hB:Bd F 30 s) (hd:s.deep<200) (hk:k≤18) (hb:Bk W bx 86 #[.pointer (some ⟨g,0,none⟩)]) (hm:Bk W by_ 1 #[.func (.func fX) #[.pointer (some ⟨g,0,none⟩)] #[]]) (eg:∀args w,(callFunc fX args).run Tryz.prog w=.ok (.enter fX args) w) (hg:∀t:Ps,t.p≤F.length→Gd F.length 14 t (X t)) (hX:∀(t:Ps) W1,t.p=s.p+1→Bd F 0 t→Mk g fv F t W1→Calls Tryz.prog fX #[.pointer (some ⟨g,0,none⟩)] W1 fun e w'=>e=.returned (.tuple #[])∧Mz g fv F W1 (X t) w') :
    Calls Tryz.prog 240 #[.pointer (some ⟨g,0,none⟩),.int .i64 (k:Int),.func (.func 256) #[] #[.pointer (some ⟨bx,0,none⟩),.pointer (some ⟨by_,0,none⟩)]] W fun e w'=>e=.returned (.tuple #[])∧Mz g fv F W (kJ k (fun t=>gw F (X (dM t))) s) w':=by
  have hi:Bd F 31 (fC k {s with deep:=s.deep+1}):=⟨hB.p,by have:=hB.l;show (s.l++[_]).length≤46*s.p+31;rw[aH];show s.l.length+1≤_;omega,by show s.deep+1≤200;omega⟩;have hn:=hi.next hs (by omega);have g1:=hg _ hn.p;have hB1:=hn.gd g1;have g2:=rI (F:=F) hB1.p;have hN:=hF.n;have l1:(dM (fC k {s with deep:=s.deep+1})).l.length=s.l.length+1:=by show (s.l++[_]).length=_;simp
  have h1:=g1.l;have h2:=g2.l;have h3:=g2.N;have h4:=g2.dp;have h5:=g1.dp
  exact yK (s:=s) (t:=gw F (X (dM (fC k {s with deep:=s.deep+1})))) k _ #[] #[.pointer (some ⟨bx,0,none⟩),.pointer (some ⟨by_,0,none⟩)] h (hB.l5 hF (by omega)) hk (by omega)
    (enters_of Tryz.func256 (by kernel_rfl) rfl)
    (fun W1 z1=>zC (s:=fC k {s with deep:=s.deep+1}) hF z1.m hs (hB1.mono (by omega)) (z1.box hb (by decide)) (z1.box hm (by decide)) eg (fun W2 z2=>hX _ _ rfl hn z2)) (by omega) (by omega) (h4.trans (h5.trans rfl))
theorem J4 (hF:FB F) (hL:GL F L) (HL:gH g fv F L q) (h:Mk g fv F s W) (hq:q≤s.p+1) (hB:Bd F 30 s) (hb:gu F s=true) (hc:sg F s.p=123) :
    lD 238 g fv F W (.tuple #[]) (gT F L s):=by
  have hs:=jP hb;have hd:s.deep<200:=by
    unfold gu at hb;rw[aT] at hb;exact cU hb.1
  have hT:gT F L s=kJ 9 (fun t=>gw F ((fun t=>eF F 125 (eM F L t)) (dM t))) s:=by
    unfold gT;rw[hc];rfl
  rw[hT];clear hT;have hgX:∀t:Ps,t.p≤F.length→Gd F.length 14 t (eF F 125 (eM F L t)):=fun t ht=>mU hL 123 ht
  have hmix:Tryz.prog.follows .mixedOrders=true:=by kernel_rfl
  have HN:=aa (fun W1 (h1:Mk g fv F s W1) bx by_ hbx hby=>lk (bx:=bx) (by_:=by_) (fX:=250) (X:=fun t=>eF F 125 (eM F L t)) (k:=9) hF h1 hs hB hd (by omega) hbx hby (enters_of Tryz.func250 (by kernel_rfl) rfl) hgX (fun t W2 ht hBt h2=>Kb hF hL HL h2 (by omega) hBt));have HC1:=aa (fun W1 (h1:Mk g fv F s W1)=>kP hF h1 hB.p 123 hc.symm);have hgl:=h.lt;have H0:=aa (Mz.start h);clear h hc hb hd hgX;go_enter Tryz.func238,Tryz.ntmps238;go_upto_region 1 with fail
  refine ki fun W0 hb0 k0 hs0=>?_
  have HBX:=aa k0;have b0:=HBX.out.cell 0;have hbl:=HBX.out.lt;have hW0:W.heap.size≤W0.heap.size:=by omega
  have hgW:g≤W0.heap.size:=by omega
  have H1:=aa (H0.out.next hb0);clear hb0 k0 hs0;go_region
  skip
  have hB3:Below W0.heap.size W0 ((W0.alloc (.cells #[(.func (.func 250) #[.pointer (some ⟨g,0,none⟩)] #[])] 1)).drew):=((aC _ W0).alloc (au _) _).drew;have ky:Bk ((W0.alloc (.cells #[(.func (.func 250) #[.pointer (some ⟨g,0,none⟩)] #[])] 1)).drew) W0.heap.size 1 #[(.func (.func 250) #[.pointer (some ⟨g,0,none⟩)] #[])]:=Bk.new W0 _ _;generalize ((W0.alloc (.cells #[(.func (.func 250) #[.pointer (some ⟨g,0,none⟩)] #[])] 1)).drew)=W3 at ky hB3 ⊢;have HK:=aa ky;have H3:=aa (H1.out.next hB3);have HX3:=aa (HBX.out.below hB3 hbl);clear ky hB3;clear b0;have b0:=HX3.out.cell 0;go_upto_region 3 with (
    (go_at_call 135;with_reducible refine(HC1.out _ H3.out.m).mono ?_
     rintro e w4 ⟨rfl,hz⟩;have H4:=aa (H3.out.then hz);have HK4:=aa (Bk.kt HK.out hz.f.kt (by decide));have HX4:=aa (Bk.kt HX3.out hz.f.kt (by decide));clear hz))
  have b0:=HX4.out.cell 0;have H5:=aa H4.out;have HK5:=aa HK4.out;have HX5:=aa HX4.out;go_wp2_with (
    (go_at_call 240;refine(HN.out _ H5.out.m _ _ HX5.out HK5.out).mono ?_;rintro e w6 ⟨rfl,hz⟩;have H6:=aa (H5.out.then hz);clear hz))
  first|go_end0|refine bn ?_
  exact⟨rfl,H6.out⟩
theorem He (hF:FB F) (hL:GL F L) (HL:gH g fv F L q) (h:Mk g fv F s W) (hq:q≤s.p+1) (hB:Bd F 30 s) (hb:gu F s=true) (hc:sg F s.p=40) :
    lD 238 g fv F W (.tuple #[]) (gT F L s):=by
  have hs:=jP hb;have hd:s.deep<200:=by
    unfold gu at hb;rw[aT] at hb;exact cU hb.1
  have hT:gT F L s=kJ 10 (fun t=>gw F ((fun t=>eF F 41 (eM F L t)) (dM t))) s:=by
    unfold gT;rw[hc];rfl
  rw[hT];clear hT;have hgX:∀t:Ps,t.p≤F.length→Gd F.length 14 t (eF F 41 (eM F L t)):=fun t ht=>mU hL 40 ht
  have hmix:Tryz.prog.follows .mixedOrders=true:=by kernel_rfl
  have HN:=aa (fun W1 (h1:Mk g fv F s W1) bx by_ hbx hby=>lk (bx:=bx) (by_:=by_) (fX:=251) (X:=fun t=>eF F 41 (eM F L t)) (k:=10) hF h1 hs hB hd (by omega) hbx hby (enters_of Tryz.func251 (by kernel_rfl) rfl) hgX (fun t W2 ht hBt h2=>Aa hF hL HL h2 (by omega) hBt));have HC1:=aa (fun W1 (h1:Mk g fv F s W1)=>kP hF h1 hB.p 40 hc.symm);have hgl:=h.lt;have H0:=aa (Mz.start h);clear h hc hb hd hgX;go_enter Tryz.func238,Tryz.ntmps238;go_upto_region 1 with fail
  refine ki fun W0 hb0 k0 hs0=>?_
  have HBX:=aa k0;have b0:=HBX.out.cell 0;have hbl:=HBX.out.lt;have hW0:W.heap.size≤W0.heap.size:=by omega
  have hgW:g≤W0.heap.size:=by omega
  have H1:=aa (H0.out.next hb0);clear hb0 k0 hs0;go_region
  skip
  have hB3:Below W0.heap.size W0 ((W0.alloc (.cells #[(.func (.func 250) #[.pointer (some ⟨g,0,none⟩)] #[])] 1)).drew):=((aC _ W0).alloc (au _) _).drew;have ky:Bk ((W0.alloc (.cells #[(.func (.func 250) #[.pointer (some ⟨g,0,none⟩)] #[])] 1)).drew) W0.heap.size 1 #[(.func (.func 250) #[.pointer (some ⟨g,0,none⟩)] #[])]:=Bk.new W0 _ _;generalize ((W0.alloc (.cells #[(.func (.func 250) #[.pointer (some ⟨g,0,none⟩)] #[])] 1)).drew)=W3 at ky hB3 ⊢;have HK:=aa ky;have H3:=aa (H1.out.next hB3);have HX3:=aa (HBX.out.below hB3 hbl);clear ky hB3;clear b0;have b0:=HX3.out.cell 0;go_upto_region 4 with (
    (go_at_call 135;with_reducible refine(HC1.out _ H3.out.m).mono ?_
     rintro e w4 ⟨rfl,hz⟩;have H4:=aa (H3.out.then hz);have HK4:=aa (Bk.kt HK.out hz.f.kt (by decide));have HX4:=aa (Bk.kt HX3.out hz.f.kt (by decide));clear hz))
  have b0:=HX4.out.cell 0;have m0:=HK4.out.cell 0;simp only[aQ,aN] at m0;have m1:=HK4.out.frozen 0;go_region;all_goals (
    have hne:W.heap.size≠W0.heap.size:=by omega
    have H5:=aa ((Mz.setNew (v:=(.func (.func 251) #[.pointer (some ⟨g,0,none⟩)] #[])) H4.out HK4.out hW0 hgW (by decide) (by decide)).next (aC _ _).drew);have k5:Bk _ W0.heap.size 1 #[(.func (.func 251) #[.pointer (some ⟨g,0,none⟩)] #[])]:=(HK4.out.set 0 _).drew;have HK5:=aa k5;have HX5:=aa (HX4.out.far (p:=⟨W0.heap.size,0,none⟩) hne (.func (.func 251) #[.pointer (some ⟨g,0,none⟩)] #[])).drew;clear k5;go_wp2_with (
      (go_at_call 240;refine(HN.out _ H5.out.m _ _ HX5.out HK5.out).mono ?_;rintro e w6 ⟨rfl,hz⟩;have H6:=aa (H5.out.then hz);clear hz))
    first|go_end0|refine bn ?_
    exact⟨rfl,H6.out⟩)
theorem Hc (hF:FB F) (hL:GL F L) (HL:gH g fv F L q) (h:Mk g fv F s W) (hq:q≤s.p+1) (hB:Bd F 30 s) (hb:gu F s=true) (hc:sg F s.p=105) :
    lD 238 g fv F W (.tuple #[]) (gT F L s):=by
  have hs:=jP hb;have hd:s.deep<200:=by
    unfold gu at hb;rw[aT] at hb;exact cU hb.1
  have hT:gT F L s=kJ 11 (fun t=>gw F ((fun t=>mE F L t) (dM t))) s:=by
    unfold gT;rw[hc];rfl
  rw[hT];clear hT;have hgX:∀t:Ps,t.p≤F.length→Gd F.length 14 t (mE F L t):=fun t ht=>mU hL 105 ht
  have hmix:Tryz.prog.follows .mixedOrders=true:=by kernel_rfl
  have HN:=aa (fun W1 (h1:Mk g fv F s W1) bx by_ hbx hby=>lk (bx:=bx) (by_:=by_) (fX:=252) (X:=fun t=>mE F L t) (k:=11) hF h1 hs hB hd (by omega) hbx hby (enters_of Tryz.func252 (by kernel_rfl) rfl) hgX (fun t W2 ht hBt h2=>BC hF hL HL h2 (by omega) hBt));have HC1:=aa (fun W1 (h1:Mk g fv F s W1)=>kP hF h1 hB.p 105 hc.symm);have hgl:=h.lt;have H0:=aa (Mz.start h);clear h hc hb hd hgX;go_enter Tryz.func238,Tryz.ntmps238;go_upto_region 1 with fail
  refine ki fun W0 hb0 k0 hs0=>?_
  have HBX:=aa k0;have b0:=HBX.out.cell 0;have hbl:=HBX.out.lt;have hW0:W.heap.size≤W0.heap.size:=by omega
  have hgW:g≤W0.heap.size:=by omega
  have H1:=aa (H0.out.next hb0);clear hb0 k0 hs0;go_region
  skip
  have hB3:Below W0.heap.size W0 ((W0.alloc (.cells #[(.func (.func 250) #[.pointer (some ⟨g,0,none⟩)] #[])] 1)).drew):=((aC _ W0).alloc (au _) _).drew;have ky:Bk ((W0.alloc (.cells #[(.func (.func 250) #[.pointer (some ⟨g,0,none⟩)] #[])] 1)).drew) W0.heap.size 1 #[(.func (.func 250) #[.pointer (some ⟨g,0,none⟩)] #[])]:=Bk.new W0 _ _;generalize ((W0.alloc (.cells #[(.func (.func 250) #[.pointer (some ⟨g,0,none⟩)] #[])] 1)).drew)=W3 at ky hB3 ⊢;have HK:=aa ky;have H3:=aa (H1.out.next hB3);have HX3:=aa (HBX.out.below hB3 hbl);clear ky hB3;clear b0;have b0:=HX3.out.cell 0;go_upto_region 6 with (
    (go_at_call 135;with_reducible refine(HC1.out _ H3.out.m).mono ?_
     rintro e w4 ⟨rfl,hz⟩;have H4:=aa (H3.out.then hz);have HK4:=aa (Bk.kt HK.out hz.f.kt (by decide));have HX4:=aa (Bk.kt HX3.out hz.f.kt (by decide));clear hz))
  have b0:=HX4.out.cell 0;have m0:=HK4.out.cell 0;simp only[aQ,aN] at m0;have m1:=HK4.out.frozen 0;go_region;all_goals (
    have hne:W.heap.size≠W0.heap.size:=by omega
    have H5:=aa ((Mz.setNew (v:=(.func (.func 252) #[.pointer (some ⟨g,0,none⟩)] #[])) H4.out HK4.out hW0 hgW (by decide) (by decide)).next (aC _ _).drew);have k5:Bk _ W0.heap.size 1 #[(.func (.func 252) #[.pointer (some ⟨g,0,none⟩)] #[])]:=(HK4.out.set 0 _).drew;have HK5:=aa k5;have HX5:=aa (HX4.out.far (p:=⟨W0.heap.size,0,none⟩) hne (.func (.func 252) #[.pointer (some ⟨g,0,none⟩)] #[])).drew;clear k5;go_wp2_with (
      (go_at_call 240;refine(HN.out _ H5.out.m _ _ HX5.out HK5.out).mono ?_;rintro e w6 ⟨rfl,hz⟩;have H6:=aa (H5.out.then hz);clear hz))
    first|go_end0|refine bn ?_
    exact⟨rfl,H6.out⟩)
theorem Hb (hF:FB F) (hL:GL F L) (HL:gH g fv F L q) (h:Mk g fv F s W) (hq:q≤s.p+1) (hB:Bd F 30 s) (hb:gu F s=true) (hc:sg F s.p=119) :
    lD 238 g fv F W (.tuple #[]) (gT F L s):=by
  have hs:=jP hb;have hd:s.deep<200:=by
    unfold gu at hb;rw[aT] at hb;exact cU hb.1
  have hT:gT F L s=kJ 12 (fun t=>gw F ((fun t=>xE F L (eM F L t)) (dM t))) s:=by
    unfold gT;rw[hc];rfl
  rw[hT];clear hT;have hgX:∀t:Ps,t.p≤F.length→Gd F.length 14 t (xE F L (eM F L t)):=fun t ht=>mU hL 119 ht
  have hmix:Tryz.prog.follows .mixedOrders=true:=by kernel_rfl
  have HN:=aa (fun W1 (h1:Mk g fv F s W1) bx by_ hbx hby=>lk (bx:=bx) (by_:=by_) (fX:=253) (X:=fun t=>xE F L (eM F L t)) (k:=12) hF h1 hs hB hd (by omega) hbx hby (enters_of Tryz.func253 (by kernel_rfl) rfl) hgX (fun t W2 ht hBt h2=>LH hF hL HL h2 (by omega) hBt));have HC1:=aa (fun W1 (h1:Mk g fv F s W1)=>kP hF h1 hB.p 119 hc.symm);have hgl:=h.lt;have H0:=aa (Mz.start h);clear h hc hb hd hgX;go_enter Tryz.func238,Tryz.ntmps238;go_upto_region 1 with fail
  refine ki fun W0 hb0 k0 hs0=>?_
  have HBX:=aa k0;have b0:=HBX.out.cell 0;have hbl:=HBX.out.lt;have hW0:W.heap.size≤W0.heap.size:=by omega
  have hgW:g≤W0.heap.size:=by omega
  have H1:=aa (H0.out.next hb0);clear hb0 k0 hs0;go_region
  skip
  have hB3:Below W0.heap.size W0 ((W0.alloc (.cells #[(.func (.func 250) #[.pointer (some ⟨g,0,none⟩)] #[])] 1)).drew):=((aC _ W0).alloc (au _) _).drew;have ky:Bk ((W0.alloc (.cells #[(.func (.func 250) #[.pointer (some ⟨g,0,none⟩)] #[])] 1)).drew) W0.heap.size 1 #[(.func (.func 250) #[.pointer (some ⟨g,0,none⟩)] #[])]:=Bk.new W0 _ _;generalize ((W0.alloc (.cells #[(.func (.func 250) #[.pointer (some ⟨g,0,none⟩)] #[])] 1)).drew)=W3 at ky hB3 ⊢;have HK:=aa ky;have H3:=aa (H1.out.next hB3);have HX3:=aa (HBX.out.below hB3 hbl);clear ky hB3;clear b0;have b0:=HX3.out.cell 0;go_upto_region 8 with (
    (go_at_call 135;with_reducible refine(HC1.out _ H3.out.m).mono ?_
     rintro e w4 ⟨rfl,hz⟩;have H4:=aa (H3.out.then hz);have HK4:=aa (Bk.kt HK.out hz.f.kt (by decide));have HX4:=aa (Bk.kt HX3.out hz.f.kt (by decide));clear hz))
  have b0:=HX4.out.cell 0;have m0:=HK4.out.cell 0;simp only[aQ,aN] at m0;have m1:=HK4.out.frozen 0;go_region;all_goals (
    have hne:W.heap.size≠W0.heap.size:=by omega
    have H5:=aa ((Mz.setNew (v:=(.func (.func 253) #[.pointer (some ⟨g,0,none⟩)] #[])) H4.out HK4.out hW0 hgW (by decide) (by decide)).next (aC _ _).drew);have k5:Bk _ W0.heap.size 1 #[(.func (.func 253) #[.pointer (some ⟨g,0,none⟩)] #[])]:=(HK4.out.set 0 _).drew;have HK5:=aa k5;have HX5:=aa (HX4.out.far (p:=⟨W0.heap.size,0,none⟩) hne (.func (.func 253) #[.pointer (some ⟨g,0,none⟩)] #[])).drew;clear k5;go_wp2_with (
      (go_at_call 240;refine(HN.out _ H5.out.m _ _ HX5.out HK5.out).mono ?_;rintro e w6 ⟨rfl,hz⟩;have H6:=aa (H5.out.then hz);clear hz))
    first|go_end0|refine bn ?_
    exact⟨rfl,H6.out⟩)
theorem Ha (hF:FB F) (hL:GL F L) (HL:gH g fv F L q) (h:Mk g fv F s W) (hq:q≤s.p+1) (hB:Bd F 30 s) (hb:gu F s=true) (hc:sg F s.p=114) :
    lD 238 g fv F W (.tuple #[]) (gT F L s):=by
  have hs:=jP hb;have hd:s.deep<200:=by
    unfold gu at hb;rw[aT] at hb;exact cU hb.1
  have hT:gT F L s=kJ 13 (fun t=>gw F ((fun t=>gF F L t) (dM t))) s:=by
    unfold gT;rw[hc];rfl
  rw[hT];clear hT;have hgX:∀t:Ps,t.p≤F.length→Gd F.length 14 t (gF F L t):=fun t ht=>mU hL 114 ht
  have hmix:Tryz.prog.follows .mixedOrders=true:=by kernel_rfl
  have HN:=aa (fun W1 (h1:Mk g fv F s W1) bx by_ hbx hby=>lk (bx:=bx) (by_:=by_) (fX:=254) (X:=fun t=>gF F L t) (k:=13) hF h1 hs hB hd (by omega) hbx hby (enters_of Tryz.func254 (by kernel_rfl) rfl) hgX (fun t W2 ht hBt h2=>GY hF hL HL h2 (by omega) hBt));have HC1:=aa (fun W1 (h1:Mk g fv F s W1)=>kP hF h1 hB.p 114 hc.symm);have hgl:=h.lt;have H0:=aa (Mz.start h);clear h hc hb hd hgX;go_enter Tryz.func238,Tryz.ntmps238;go_upto_region 1 with fail
  refine ki fun W0 hb0 k0 hs0=>?_
  have HBX:=aa k0;have b0:=HBX.out.cell 0;have hbl:=HBX.out.lt;have hW0:W.heap.size≤W0.heap.size:=by omega
  have hgW:g≤W0.heap.size:=by omega
  have H1:=aa (H0.out.next hb0);clear hb0 k0 hs0;go_region
  skip
  have hB3:Below W0.heap.size W0 ((W0.alloc (.cells #[(.func (.func 250) #[.pointer (some ⟨g,0,none⟩)] #[])] 1)).drew):=((aC _ W0).alloc (au _) _).drew;have ky:Bk ((W0.alloc (.cells #[(.func (.func 250) #[.pointer (some ⟨g,0,none⟩)] #[])] 1)).drew) W0.heap.size 1 #[(.func (.func 250) #[.pointer (some ⟨g,0,none⟩)] #[])]:=Bk.new W0 _ _;generalize ((W0.alloc (.cells #[(.func (.func 250) #[.pointer (some ⟨g,0,none⟩)] #[])] 1)).drew)=W3 at ky hB3 ⊢;have HK:=aa ky;have H3:=aa (H1.out.next hB3);have HX3:=aa (HBX.out.below hB3 hbl);clear ky hB3;clear b0;have b0:=HX3.out.cell 0;go_upto_region 10 with (
    (go_at_call 135;with_reducible refine(HC1.out _ H3.out.m).mono ?_
     rintro e w4 ⟨rfl,hz⟩;have H4:=aa (H3.out.then hz);have HK4:=aa (Bk.kt HK.out hz.f.kt (by decide));have HX4:=aa (Bk.kt HX3.out hz.f.kt (by decide));clear hz))
  have b0:=HX4.out.cell 0;have m0:=HK4.out.cell 0;simp only[aQ,aN] at m0;have m1:=HK4.out.frozen 0;go_region;all_goals (
    have hne:W.heap.size≠W0.heap.size:=by omega
    have H5:=aa ((Mz.setNew (v:=(.func (.func 254) #[.pointer (some ⟨g,0,none⟩)] #[])) H4.out HK4.out hW0 hgW (by decide) (by decide)).next (aC _ _).drew);have k5:Bk _ W0.heap.size 1 #[(.func (.func 254) #[.pointer (some ⟨g,0,none⟩)] #[])]:=(HK4.out.set 0 _).drew;have HK5:=aa k5;have HX5:=aa (HX4.out.far (p:=⟨W0.heap.size,0,none⟩) hne (.func (.func 254) #[.pointer (some ⟨g,0,none⟩)] #[])).drew;clear k5;go_wp2_with (
      (go_at_call 240;refine(HN.out _ H5.out.m _ _ HX5.out HK5.out).mono ?_;rintro e w6 ⟨rfl,hz⟩;have H6:=aa (H5.out.then hz);clear hz))
    first|go_end0|refine bn ?_
    exact⟨rfl,H6.out⟩)
theorem G9 (hF:FB F) (hL:GL F L) (HL:gH g fv F L q) (h:Mk g fv F s W) (hq:q≤s.p+1) (hB:Bd F 30 s) (hb:gu F s=true) (hc:sg F s.p=99) :
    lD 238 g fv F W (.tuple #[]) (gT F L s):=by
  have hs:=jP hb;have hd:s.deep<200:=by
    unfold gu at hb;rw[aT] at hb;exact cU hb.1
  have hT:gT F L s=kJ 14 (fun t=>gw F ((fun t=>jw F L t) (dM t))) s:=by
    unfold gT;rw[hc];rfl
  rw[hT];clear hT;have hgX:∀t:Ps,t.p≤F.length→Gd F.length 14 t (jw F L t):=fun t ht=>mU hL 99 ht
  have hmix:Tryz.prog.follows .mixedOrders=true:=by kernel_rfl
  have HN:=aa (fun W1 (h1:Mk g fv F s W1) bx by_ hbx hby=>lk (bx:=bx) (by_:=by_) (fX:=255) (X:=fun t=>jw F L t) (k:=14) hF h1 hs hB hd (by omega) hbx hby (enters_of Tryz.func255 (by kernel_rfl) rfl) hgX (fun t W2 ht hBt h2=>J9 hF hL HL h2 (by omega) hBt));have HC1:=aa (fun W1 (h1:Mk g fv F s W1)=>kP hF h1 hB.p 99 hc.symm);have hgl:=h.lt;have H0:=aa (Mz.start h);clear h hc hb hd hgX;go_enter Tryz.func238,Tryz.ntmps238;go_upto_region 1 with fail
  refine ki fun W0 hb0 k0 hs0=>?_
  have HBX:=aa k0;have b0:=HBX.out.cell 0;have hbl:=HBX.out.lt;have hW0:W.heap.size≤W0.heap.size:=by omega
  have hgW:g≤W0.heap.size:=by omega
  have H1:=aa (H0.out.next hb0);clear hb0 k0 hs0;go_region
  skip
  have hB3:Below W0.heap.size W0 ((W0.alloc (.cells #[(.func (.func 250) #[.pointer (some ⟨g,0,none⟩)] #[])] 1)).drew):=((aC _ W0).alloc (au _) _).drew;have ky:Bk ((W0.alloc (.cells #[(.func (.func 250) #[.pointer (some ⟨g,0,none⟩)] #[])] 1)).drew) W0.heap.size 1 #[(.func (.func 250) #[.pointer (some ⟨g,0,none⟩)] #[])]:=Bk.new W0 _ _;generalize ((W0.alloc (.cells #[(.func (.func 250) #[.pointer (some ⟨g,0,none⟩)] #[])] 1)).drew)=W3 at ky hB3 ⊢;have HK:=aa ky;have H3:=aa (H1.out.next hB3);have HX3:=aa (HBX.out.below hB3 hbl);clear ky hB3;clear b0;have b0:=HX3.out.cell 0;go_upto_region 12 with (
    (go_at_call 135;with_reducible refine(HC1.out _ H3.out.m).mono ?_
     rintro e w4 ⟨rfl,hz⟩;have H4:=aa (H3.out.then hz);have HK4:=aa (Bk.kt HK.out hz.f.kt (by decide));have HX4:=aa (Bk.kt HX3.out hz.f.kt (by decide));clear hz))
  have b0:=HX4.out.cell 0;have m0:=HK4.out.cell 0;simp only[aQ,aN] at m0;have m1:=HK4.out.frozen 0;go_region;all_goals (
    have hne:W.heap.size≠W0.heap.size:=by omega
    have H5:=aa ((Mz.setNew (v:=(.func (.func 255) #[.pointer (some ⟨g,0,none⟩)] #[])) H4.out HK4.out hW0 hgW (by decide) (by decide)).next (aC _ _).drew);have k5:Bk _ W0.heap.size 1 #[(.func (.func 255) #[.pointer (some ⟨g,0,none⟩)] #[])]:=(HK4.out.set 0 _).drew;have HK5:=aa k5;have HX5:=aa (HX4.out.far (p:=⟨W0.heap.size,0,none⟩) hne (.func (.func 255) #[.pointer (some ⟨g,0,none⟩)] #[])).drew;clear k5;go_wp2_with (
      (go_at_call 240;refine(HN.out _ H5.out.m _ _ HX5.out HK5.out).mono ?_;rintro e w6 ⟨rfl,hz⟩;have H6:=aa (H5.out.then hz);clear hz))
    first|go_end0|refine bn ?_
    exact⟨rfl,H6.out⟩)
theorem uD (hF:FB F) (hL:GL F L) (HL:gH g fv F L q) (h:Mk g fv F s W) (hq:q≤s.p+1) (hB:Bd F 30 s) (hb:gu F s=true) :
    lD 238 g fv F W (.tuple #[]) (gT F L s):=by
  have hc:sg F s.p∈[123,40,105,119,114,99]:=by
    have h1:=hb;unfold gu at h1;rw[aT] at h1;exact List.contains_iff_mem.1 h1.2
  simp only[br,List.not_mem_nil,or_false] at hc;rcases hc with hc|hc|hc|hc|hc|hc
  ·exact J4 hF hL HL h hq hB hb hc
  ·exact He hF hL HL h hq hB hb hc
  ·exact Hc hF hL HL h hq hB hb hc
  ·exact Hb hF hL HL h hq hB hb hc
  ·exact Ha hF hL HL h hq hB hb hc
  ·exact G9 hF hL HL h hq hB hb hc
theorem IJ (hs:s.p≤F.length) (hb:eK F s=true):fP F s=fP F (fI F s):=by
  unfold fP;rw[LC.stepy iP hs (t:=fI F s) (by show (if _ then _ else _)=_;rw[aD hb])]
theorem IL (hs:s.p≤F.length) (hb:eK F s=false) (hw:iM F s.p=true) (ha:lI (tx F s.p)=true):fP F s=fP F (ez 6 s):=by
  unfold fP;rw[LC.stepy iP hs (t:=ez 6 s) (by show (if _ then _ else if _ then _ else _)=_;rw[aB (by rw[hb];decide),aD (by rw[hw,ha];rfl)])]
theorem II (hs:s.p≤F.length) (hb:eK F s=false) (hw:iM F s.p=true) (ha:lI (tx F s.p)=false):fP F s=iA F (ez 7 s):=by
  have e:=LC.stepn iP hs (t:=s) (by show (if _ then _ else if _ then _ else _)=_;rw[aB (by rw[hb];decide),aB (by rw[hw,ha];decide)]);unfold fP;simp only[e,hw,bQ]
theorem IK (hs:s.p≤F.length) (hb:eK F s=false) (hw:iM F s.p=false):fP F s=s:=by
  have e:=LC.stepn iP hs (t:=s) (by show (if _ then _ else if _ then _ else _)=_;rw[aB (by rw[hb];decide),aB (by rw[hw];exact fun h=>by cases h)]);unfold fP;simp only[e,hw,bp,aI]
theorem IO (hs:s.p≤F.length) (hb:eK F s=true):iA F s=iA F (fI F s):=
  LC.stepy mI hs (t:=fI F s) (by show (if _ then _ else _)=_;rw[aD hb])
theorem IN (hs:s.p≤F.length) (hb:eK F s=false) (hw:iM F s.p=true):iA F s=iA F (ez 7 s):=
  LC.stepy mI hs (t:=ez 7 s) (by show (if _ then _ else if _ then _ else _)=_;rw[aB (by rw[hb];decide),aD hw])
theorem IP (hs:s.p≤F.length) (hb:eK F s=false) (hw:iM F s.p=false):iA F s=s:=
  LC.stepn mI hs (t:=s) (by show (if _ then _ else if _ then _ else _)=_;rw[aB (by rw[hb];decide),aB (by rw[hw];decide)])
structure Sm (F:List Lf) (T u:Ps) (b:Bool):Prop where
  w:(b=false∧fP F u=T)∨(b=true∧iA F u=T)
theorem K5 (h:iM F u.p=true):Gd F.length 0 u (ez 6 u)∧u.p<(ez 6 u).p:=⟨(fW (F:=F) (k:=6) (fR h)).2.2,(fW (F:=F) (k:=6) (fR h)).2.1⟩
theorem Ew (h:iM F u.p=true):Gd F.length 0 u (ez 7 u)∧u.p<(ez 7 u).p:=⟨(fW (F:=F) (k:=7) (fR h)).2.2,(fW (F:=F) (k:=7) (fR h)).2.1⟩
theorem Ex (hF:FB F) (h:Mk g fv F s W) (hB:Bd F 27 s) :
    lD 242 g fv F W (.tuple #[]) (fP F s):=by
  have hmix:Tryz.prog.follows .mixedOrders=true:=by kernel_rfl
  obtain⟨T,hT⟩:∃T,T=fP F s:=⟨_,rfl⟩;rw[←hT];have HT:=aa hT;clear hT;have H0:=aa (Mz.start h);clear h;go_enter Tryz.func242,Tryz.ntmps242;go_wp2_with fail;go_step3;go_wp2_with fail;go_step3;go_wp2_with fail;go_loopw [2] (fun v wr=>∃(u:Ps) (b:Bool),v=.bool b∧Bd F 27 u∧Sm F T u b∧Mz g fv F W u wr) (fun _ wr=>F.length-pOf g wr)
  case atStart=>exact⟨s,false,rfl,hB,⟨.inl ⟨rfl,HT.out.symm⟩⟩,H0.out⟩
  case round=>
    obtain⟨u,b,rfl,hBu,hsm,hz⟩:=hrel;have U0:=aa hz;have hup:=hz.m.pOf;have HP:=aa hup;have HS:=aa hsm;clear hz hup hsm
    cases hb:eK F u
    ·cases hw:iM F u.p
     ·have hT9:T=u:=by
        rcases HS.out.w with ⟨_,h2⟩|⟨_,h2⟩
        ·exact h2.symm.trans (IK hBu.p hb hw)
        ·exact h2.symm.trans (IP hBu.p hb hw)
      have HT9:=aa hT9;clear hT9;have NC1:=aa (fun W1 (h1:Mk g fv F (u) W1)=>jV hF h1 (hBu.mono (by omega)) hb);have NC2:=aa (fun W1 (h1:Mk g fv F (u) W1)=>gk hF h1 hBu.p hw)
      go_wp2_with (first
        | (go_at_call 257;with_reducible refine(NC1.out _ U0.out.m).mono (Mz.k U0 fun nw1 N1=>?_))
        | (go_at_call 261;with_reducible refine(NC2.out _ N1.out.m).mono (Mz.k N1 fun nw2 N2=>?_))
        | fail)
      try rw[bj]
      first|go_end0|refine bn ?_
      refine⟨rfl,?_⟩;rw[HT9.out];exact N2.out
     ·cases b
      ·cases ha:lI (tx F u.p);have h2:fP F u=T:=by
         rcases HS.out.w with ⟨h1,h2⟩|⟨h1,h2⟩
         ·exact h2
         ·cases h1
       have hsm:Sm F T (ez 7 u) true:=⟨.inr ⟨rfl,(II hBu.p hb hw ha).symm.trans h2⟩⟩;have HS2:=aa hsm;clear hsm h2;have hy:=Ew hw;have NC1:=aa (fun W1 (h1:Mk g fv F (u) W1)=>jV hF h1 (hBu.mono (by omega)) hb);have NC2:=aa (fun W1 (h1:Mk g fv F (u) W1)=>iR hF h1 hBu.p hw)
       go_upto_region 5 with (first
         | (go_at_call 257;with_reducible refine(NC1.out _ U0.out.m).mono (Mz.k U0 fun nw1 N1=>?_))
         | (go_at_call 261;with_reducible refine(NC2.out _ N1.out.m).mono (Mz.k N1 fun nw2 N2=>?_))
         | fail)
       have SH:=aa N2.out;obtain⟨y0,y1,y3,y4,_⟩:=SH.out.m.cells;have hlt:=fR hw;obtain⟨x,hx⟩:∃x,F[u.p]? = some x:=⟨_,ax hlt⟩;have htx:tx F u.p=x.tx:=by unfold tx;rw[hx]
       have htl:=hF.t x (aO hx);obtain⟨A,c,hfv⟩:=SH.out.m.f.formm;have hf9:=SH.out.m.f;rw[hfv] at hf9;obtain⟨g1,o1,hA9,z0,z1,z2,z3⟩:=jl hf9 hx rfl;rw[hfv,hA9] at y0;have u1:(u.p:Int)<(F.length:Int):=by omega
       have u2:(0:Int)≤(u.p:Int):=by omega
       have hn9:=fun W=>vW x.tx W (by omega)
       rw[←htx] at hn9;rw[ha] at hn9;rw[htx] at hn9;have HN:=aa hn9;clear hn9 htx hx htl z0 z2 z3 hf9 hA9 hfv y3 y4;obtain⟨S0,hS0⟩:∃S0:World→Prop,S0=fun w'=>Below nw2.heap.size nw2 w':=⟨_,rfl⟩
       refine wp_region_held (S:=S0) hmix ?_;show wpAnyH _ _ _ _ _ _ _ _ nw2.drew;have hS1:S0 nw2.drew:=by rw[hS0];exact(aC _ nw2).drew
       have tc:∀(w':World),S0 w'→∀(a:Addr) (v:Value),nw2.cell? a=some v→w'.cell? a=some v:=fun w' h a v hc=>DT (by rw[hS0] at h;exact h) hc
       refine tk 0 (.bool false) hS1 (fun w' hS=>?_) ?_
       ·go_simp
       try simp only[Act.put,am,ai,aj,ae,an,ar]
       refine tk 1 (.bool true) hS1 (fun w' hS=>?_) ?_
       ·go_simp
       try simp only[Act.put,am,ai,aj,ae,an,ar]
       refine tk 2 (.bool true) hS1 (fun w' hS=>?_) ?_
       ·go_simp
       try simp only[Act.put,am,ai,aj,ae,an,ar]
       refine tk 3 (.pointer (some ⟨g,0,none⟩)) hS1 (fun w' hS=>?_) ?_
       ·go_simp
       try simp only[Act.put,am,ai,aj,ae,an,ar]
       refine tk 4 (.pointer (some ⟨g,0,none⟩)) hS1 (fun w' hS=>?_) ?_
       ·go_simp
       try simp only[Act.put,am,ai,aj,ae,an,ar]
       refine tk 5 (.pointer (some ⟨g,0,none⟩)) hS1 (fun w' hS=>?_) ?_
       ·go_simp
       try simp only[Act.put,am,ai,aj,ae,an,ar]
       refine tk 6 (.slice (some ⟨g1,o1,none⟩) F.length c) hS1 (fun w' hS=>?_) ?_
       ·have c0:=tc w' hS _ _ y0;go_simp
       try simp only[Act.put,am,ai,aj,ae,an,ar]
       refine tk 7 (.pointer (some ⟨g,0,none⟩)) hS1 (fun w' hS=>?_) ?_
       ·go_simp
       try simp only[Act.put,am,ai,aj,ae,an,ar]
       refine tk 8 (.pointer (some ⟨g,0,none⟩)) hS1 (fun w' hS=>?_) ?_
       ·go_simp
       try simp only[Act.put,am,ai,aj,ae,an,ar]
       refine tk 9 (.pointer (some ⟨g,1,none⟩)) hS1 (fun w' hS=>?_) ?_
       ·go_simp
       try simp only[Act.put,am,ai,aj,ae,an,ar]
       refine tk 10 (.int .i64 (u.p:Int)) hS1 (fun w' hS=>?_) ?_
       ·have c0:=tc w' hS _ _ y1;go_simp
       try simp only[Act.put,am,ai,aj,ae,an,ar]
       refine tk 11 (.pointer (some ⟨g1,o1+u.p*4,none⟩)) hS1 (fun w' hS=>?_) ?_
       ·go_simp
       try simp only[Act.put,am,ai,aj,ae,an,ar]
       refine tk 12 (.pointer (some ⟨g1,o1+u.p*4+1,none⟩)) hS1 (fun w' hS=>?_) ?_
       ·go_simp
       try simp only[Act.put,am,ai,aj,ae,an,ar]
       refine tk 13 (.string ⟨x.tx.toArray⟩) hS1 (fun w' hS=>?_) ?_
       ·have c0:=tc w' hS _ _ z1;go_simp
       try simp only[Act.put,am,ai,aj,ae,an,ar]
       refine wpAnyH_all (rs:=[14]) (by decide +kernel) (by simp) (o8 rfl (by rfl) (fun K2 hK2=>?_) (o9 (S:=S0)));go_simp;go_at_call 262;refine(HN.out _).mono ?_;rintro e w9 ⟨rfl,hz⟩;have HB:=aa ((aC _ nw2).drew.trans hz);clear hz;have hS3:S0 w9:=by rw[hS0];exact HB.out
       refine hK2 _ _ hS3 ?_;clear hK2 K2;try simp only[Act.put,am,ai,aj,ae,an,ar]
       refine tk 15 (.bool false) hS3 (fun w' hS=>?_) ?_
       ·go_simp
       try simp only[Act.put,am,ai,aj,ae,an,ar]
       refine tk 16 (.bool false) hS3 (fun w' hS=>?_) ?_
       ·go_simp
       try simp only[Act.put,am,ai,aj,ae,an,ar]
       refine wpAnyH_done (by decide +kernel) ?_ _;have E0:=aa (SH.out.next HB.out);clear hS0 hS1 tc hS3;have MC1:=aa (fun W1 (h1:Mk g fv F (u) W1)=>lR hF h1 (hBu.mono (by omega)) (fR hw))
       rotate_left
       have h2:fP F u=T:=by
         rcases HS.out.w with ⟨h1,h2⟩|⟨h1,h2⟩
         ·exact h2
         ·cases h1
       have hsm:Sm F T (ez 6 u) false:=⟨.inl ⟨rfl,(IL hBu.p hb hw ha).symm.trans h2⟩⟩;have HS2:=aa hsm;clear hsm h2;have hy:=K5 hw;have NC1:=aa (fun W1 (h1:Mk g fv F (u) W1)=>jV hF h1 (hBu.mono (by omega)) hb);have NC2:=aa (fun W1 (h1:Mk g fv F (u) W1)=>iR hF h1 hBu.p hw)
       go_upto_region 5 with (first
         | (go_at_call 257;with_reducible refine(NC1.out _ U0.out.m).mono (Mz.k U0 fun nw1 N1=>?_))
         | (go_at_call 261;with_reducible refine(NC2.out _ N1.out.m).mono (Mz.k N1 fun nw2 N2=>?_))
         | fail)
       have SH:=aa N2.out;obtain⟨y0,y1,y3,y4,_⟩:=SH.out.m.cells;have hlt:=fR hw;obtain⟨x,hx⟩:∃x,F[u.p]? = some x:=⟨_,ax hlt⟩;have htx:tx F u.p=x.tx:=by unfold tx;rw[hx]
       have htl:=hF.t x (aO hx);obtain⟨A,c,hfv⟩:=SH.out.m.f.formm;have hf9:=SH.out.m.f;rw[hfv] at hf9;obtain⟨g1,o1,hA9,z0,z1,z2,z3⟩:=jl hf9 hx rfl;rw[hfv,hA9] at y0;have u1:(u.p:Int)<(F.length:Int):=by omega
       have u2:(0:Int)≤(u.p:Int):=by omega
       have hn9:=fun W=>vW x.tx W (by omega)
       rw[←htx] at hn9;rw[ha] at hn9;rw[htx] at hn9;have HN:=aa hn9;clear hn9 htx hx htl z0 z2 z3 hf9 hA9 hfv y3 y4;obtain⟨S0,hS0⟩:∃S0:World→Prop,S0=fun w'=>Below nw2.heap.size nw2 w':=⟨_,rfl⟩
       refine wp_region_held (S:=S0) hmix ?_;show wpAnyH _ _ _ _ _ _ _ _ nw2.drew;have hS1:S0 nw2.drew:=by rw[hS0];exact(aC _ nw2).drew
       have tc:∀(w':World),S0 w'→∀(a:Addr) (v:Value),nw2.cell? a=some v→w'.cell? a=some v:=fun w' h a v hc=>DT (by rw[hS0] at h;exact h) hc
       refine tk 0 (.bool false) hS1 (fun w' hS=>?_) ?_
       ·go_simp
       try simp only[Act.put,am,ai,aj,ae,an,ar]
       refine tk 1 (.bool true) hS1 (fun w' hS=>?_) ?_
       ·go_simp
       try simp only[Act.put,am,ai,aj,ae,an,ar]
       refine tk 2 (.bool true) hS1 (fun w' hS=>?_) ?_
       ·go_simp
       try simp only[Act.put,am,ai,aj,ae,an,ar]
       refine tk 3 (.pointer (some ⟨g,0,none⟩)) hS1 (fun w' hS=>?_) ?_
       ·go_simp
       try simp only[Act.put,am,ai,aj,ae,an,ar]
       refine tk 4 (.pointer (some ⟨g,0,none⟩)) hS1 (fun w' hS=>?_) ?_
       ·go_simp
       try simp only[Act.put,am,ai,aj,ae,an,ar]
       refine tk 5 (.pointer (some ⟨g,0,none⟩)) hS1 (fun w' hS=>?_) ?_
       ·go_simp
       try simp only[Act.put,am,ai,aj,ae,an,ar]
       refine tk 6 (.slice (some ⟨g1,o1,none⟩) F.length c) hS1 (fun w' hS=>?_) ?_
       ·have c0:=tc w' hS _ _ y0;go_simp
       try simp only[Act.put,am,ai,aj,ae,an,ar]
       refine tk 7 (.pointer (some ⟨g,0,none⟩)) hS1 (fun w' hS=>?_) ?_
       ·go_simp
       try simp only[Act.put,am,ai,aj,ae,an,ar]
       refine tk 8 (.pointer (some ⟨g,0,none⟩)) hS1 (fun w' hS=>?_) ?_
       ·go_simp
       try simp only[Act.put,am,ai,aj,ae,an,ar]
       refine tk 9 (.pointer (some ⟨g,1,none⟩)) hS1 (fun w' hS=>?_) ?_
       ·go_simp
       try simp only[Act.put,am,ai,aj,ae,an,ar]
       refine tk 10 (.int .i64 (u.p:Int)) hS1 (fun w' hS=>?_) ?_
       ·have c0:=tc w' hS _ _ y1;go_simp
       try simp only[Act.put,am,ai,aj,ae,an,ar]
       refine tk 11 (.pointer (some ⟨g1,o1+u.p*4,none⟩)) hS1 (fun w' hS=>?_) ?_
       ·go_simp
       try simp only[Act.put,am,ai,aj,ae,an,ar]
       refine tk 12 (.pointer (some ⟨g1,o1+u.p*4+1,none⟩)) hS1 (fun w' hS=>?_) ?_
       ·go_simp
       try simp only[Act.put,am,ai,aj,ae,an,ar]
       refine tk 13 (.string ⟨x.tx.toArray⟩) hS1 (fun w' hS=>?_) ?_
       ·have c0:=tc w' hS _ _ z1;go_simp
       try simp only[Act.put,am,ai,aj,ae,an,ar]
       refine wpAnyH_all (rs:=[14]) (by decide +kernel) (by simp) (o8 rfl (by rfl) (fun K2 hK2=>?_) (o9 (S:=S0)));go_simp;go_at_call 262;refine(HN.out _).mono ?_;rintro e w9 ⟨rfl,hz⟩;have HB:=aa ((aC _ nw2).drew.trans hz);clear hz;have hS3:S0 w9:=by rw[hS0];exact HB.out
       refine hK2 _ _ hS3 ?_;clear hK2 K2;try simp only[Act.put,am,ai,aj,ae,an,ar]
       refine tk 15 (.bool true) hS3 (fun w' hS=>?_) ?_
       ·go_simp
       try simp only[Act.put,am,ai,aj,ae,an,ar]
       refine tk 16 (.bool true) hS3 (fun w' hS=>?_) ?_
       ·go_simp
       try simp only[Act.put,am,ai,aj,ae,an,ar]
       refine wpAnyH_done (by decide +kernel) ?_ _;have E0:=aa (SH.out.next HB.out);clear hS0 hS1 tc hS3;have MC1:=aa (fun W1 (h1:Mk g fv F (u) W1)=>Jy hF h1 (hBu.mono (by omega)) (fR hw))
       rotate_left
       all_goals (
         go_wp2_with (
           (go_at_call 103;with_reducible refine(MC1.out _ E0.out.m).mono (Mz.k E0 fun mw1 M1=>?_)))
         refine⟨⟨_,_,rfl,hBu.gd hy.1,HS2.out,M1.out⟩,?_⟩;rw[M1.out.m.pOf,HP.out]
         have:=hy.2
         have:=hy.1.N
         omega)
      ·have h2:iA F u=T:=by
         rcases HS.out.w with ⟨h1,h2⟩|⟨h1,h2⟩
         ·cases h1
         ·exact h2
       have hsm:Sm F T (ez 7 u) true:=⟨.inr ⟨rfl,(IN hBu.p hb hw).symm.trans h2⟩⟩;have HS2:=aa hsm;clear hsm h2;have hy:=Ew hw;have NC1:=aa (fun W1 (h1:Mk g fv F (u) W1)=>jV hF h1 (hBu.mono (by omega)) hb);have NC2:=aa (fun W1 (h1:Mk g fv F (u) W1)=>iR hF h1 hBu.p hw)
       go_upto_region 5 with (first
         | (go_at_call 257;with_reducible refine(NC1.out _ U0.out.m).mono (Mz.k U0 fun nw1 N1=>?_))
         | (go_at_call 261;with_reducible refine(NC2.out _ N1.out.m).mono (Mz.k N1 fun nw2 N2=>?_))
         | fail)
       have SH:=aa N2.out;obtain⟨y0,y1,y3,y4,_⟩:=SH.out.m.cells;clear y0 y1 y3 y4;obtain⟨S0,hS0⟩:∃S0:World→Prop,S0=fun w'=>Below nw2.heap.size nw2 w':=⟨_,rfl⟩
       refine wp_region_held (S:=S0) hmix ?_;show wpAnyH _ _ _ _ _ _ _ _ nw2.drew;have hS1:S0 nw2.drew:=by rw[hS0];exact(aC _ nw2).drew
       have tc:∀(w':World),S0 w'→∀(a:Addr) (v:Value),nw2.cell? a=some v→w'.cell? a=some v:=fun w' h a v hc=>DT (by rw[hS0] at h;exact h) hc
       refine tk 0 (.bool true) hS1 (fun w' hS=>?_) ?_
       ·go_simp
       try simp only[Act.put,am,ai,aj,ae,an,ar]
       refine tk 1 (.bool false) hS1 (fun w' hS=>?_) ?_
       ·go_simp
       try simp only[Act.put,am,ai,aj,ae,an,ar]
       refine tk 2 (.bool false) hS1 (fun w' hS=>?_) ?_
       ·go_simp
       try simp only[Act.put,am,ai,aj,ae,an,ar]
       refine sk 3 hS1 ?_;try simp only[Act.put,am,ai,aj,ae,an,ar]
       refine sk 4 hS1 ?_;try simp only[Act.put,am,ai,aj,ae,an,ar]
       refine sk 5 hS1 ?_;try simp only[Act.put,am,ai,aj,ae,an,ar]
       refine sk 6 hS1 ?_;try simp only[Act.put,am,ai,aj,ae,an,ar]
       refine sk 7 hS1 ?_;try simp only[Act.put,am,ai,aj,ae,an,ar]
       refine sk 8 hS1 ?_;try simp only[Act.put,am,ai,aj,ae,an,ar]
       refine sk 9 hS1 ?_;try simp only[Act.put,am,ai,aj,ae,an,ar]
       refine sk 10 hS1 ?_;try simp only[Act.put,am,ai,aj,ae,an,ar]
       refine sk 11 hS1 ?_;try simp only[Act.put,am,ai,aj,ae,an,ar]
       refine sk 12 hS1 ?_;try simp only[Act.put,am,ai,aj,ae,an,ar]
       refine sk 13 hS1 ?_;try simp only[Act.put,am,ai,aj,ae,an,ar]
       refine sk 14 hS1 ?_;try simp only[Act.put,am,ai,aj,ae,an,ar]
       refine tk 15 (.bool false) hS1 (fun w' hS=>?_) ?_
       ·go_simp
       try simp only[Act.put,am,ai,aj,ae,an,ar]
       refine tk 16 (.bool false) hS1 (fun w' hS=>?_) ?_
       ·go_simp
       try simp only[Act.put,am,ai,aj,ae,an,ar]
       refine wpAnyH_done (by decide +kernel) ?_ _;have E0:=aa (SH.out.next (aC _ _).drew);clear hS0 hS1 tc;have MC1:=aa (fun W1 (h1:Mk g fv F (u) W1)=>lR hF h1 (hBu.mono (by omega)) (fR hw));go_wp2_with (
         (go_at_call 103;with_reducible refine(MC1.out _ E0.out.m).mono (Mz.k E0 fun mw1 M1=>?_)))
       refine⟨⟨_,_,rfl,hBu.gd hy.1,HS2.out,M1.out⟩,?_⟩;rw[M1.out.m.pOf,HP.out]
       have:=hy.2
       have:=hy.1.N
       omega
    ·have hy:=mt hb;have hsm:Sm F T (fI F u) b:=by
       rcases HS.out.w with ⟨h1,h2⟩|⟨h1,h2⟩
       ·exact⟨.inl ⟨h1,(IJ hBu.p hb).symm.trans h2⟩⟩
       ·exact⟨.inr ⟨h1,(IO hBu.p hb).symm.trans h2⟩⟩
     have HS2:=aa hsm;clear hsm;have NC1:=aa (fun W1 (h1:Mk g fv F (u) W1)=>rZ hF h1 (hBu.mono (by omega)) hb);go_wp2_with (
       (go_at_call 257;with_reducible refine(NC1.out _ U0.out.m).mono (Mz.k U0 fun nw1 N1=>?_)))
     refine⟨⟨_,_,rfl,hBu.gd hy.1,HS2.out,N1.out⟩,?_⟩;rw[N1.out.m.pOf,HP.out]
     have:=hy.2
     have:=hy.1.N
     omega
theorem G7 (hF:FB F) (hL:GL F L) (HL:gH g fv F L q) (h:Mk g fv F s W) (hq:q≤s.p+1) (hB:Bd F 28 s) :
    lD 241 g fv F W (.tuple #[]) (my F L s):=by
  obtain⟨T,hT⟩:∃T,T=my F L s:=⟨_,rfl⟩;rw[←hT];have HT:=aa hT;clear hT;have hg1:=ie (F:=F) hB.p;have hB1:=hB.gd hg1;have hg2:=gr (F:=F) (cs:=[40]) (by decide) hB1.p;have hB2:=hB1.gd hg2;have hg3:=fO (F:=F) (c:=41) (by decide) hB2.p;have hB3:=hB2.gd hg3;have hg4:=dY (F:=F) hB3.p;have hB4:=hB3.gd hg4;have hq4:q≤(dK F (eF F 41 (eB F [40] (eE F s)))).p+1:=aA hq (bH (aA hg1.p (aA hg2.p (aA hg3.p hg4.p))));go_enter Tryz.func241,Tryz.ntmps241
  cases hb:gu F (dK F (eF F 41 (eB F [40] (eE F s))))
  ·have HC1:=aa (fun W1 (h1:Mk g fv F (s) W1)=>oH hF h1 (hB.mono (by omega)));have HC2:=aa (fun W1 (h1:Mk g fv F (eE F s) W1)=>lV hF h1 hB1.p [40] (by decide));have HC3:=aa (fun W1 (h1:Mk g fv F (eB F [40] (eE F s)) W1)=>iH hF h1 (hB2.mono (by omega)) 41 (by decide));have HC4:=aa (fun W1 (h1:Mk g fv F (eF F 41 (eB F [40] (eE F s))) W1)=>fM hF h1 hB3.p);have HC5:=aa (fun W1 (h1:Mk g fv F (dK F (eF F 41 (eB F [40] (eE F s)))) W1)=>lg hF h1 hB4.p hb);have HC6:=aa (fun W1 (h1:Mk g fv F (dK F (eF F 41 (eB F [40] (eE F s)))) W1)=>fT hF h1 (hB4.mono (by omega)));have H0:=aa (Mz.start h);clear h
   go_wp2_with (first
     | (go_at_call 259;with_reducible refine(HC1.out _ H0.out.m).mono (Mz.k H0 fun hw1 H1=>?_))
     | (go_at_call 100;with_reducible refine(HC2.out _ H1.out.m).mono (Mz.k H1 fun hw2 H2=>?_))
     | (go_at_call 260;with_reducible refine(HC3.out _ H2.out.m).mono (Mz.k H2 fun hw3 H3=>?_))
     | (go_at_call 138;with_reducible refine(HC4.out _ H3.out.m).mono (Mz.k H3 fun hw4 H4=>?_))
     | (go_at_call 171;with_reducible refine(HC5.out _ H4.out.m).mono (Mz.k H4 fun hw5 H5=>?_))
     | (go_at_call 204;with_reducible refine(HC6.out _ H5.out.m).mono (Mz.k H5 fun hw6 H6=>?_))
     | fail)
   first|go_end0|refine bn ?_
   refine⟨rfl,?_⟩;rw[HT.out];unfold my;simp only;rw[aB (by rw[hb];decide)];exact H6.out
  ·have HC1:=aa (fun W1 (h1:Mk g fv F (s) W1)=>oH hF h1 (hB.mono (by omega)));have HC2:=aa (fun W1 (h1:Mk g fv F (eE F s) W1)=>lV hF h1 hB1.p [40] (by decide));have HC3:=aa (fun W1 (h1:Mk g fv F (eB F [40] (eE F s)) W1)=>iH hF h1 (hB2.mono (by omega)) 41 (by decide));have HC4:=aa (fun W1 (h1:Mk g fv F (eF F 41 (eB F [40] (eE F s))) W1)=>fM hF h1 hB3.p);have HC5:=aa (fun W1 (h1:Mk g fv F (dK F (eF F 41 (eB F [40] (eE F s)))) W1)=>qP hF h1 hB4.p hb);have HC6:=aa (fun W1 (h1:Mk g fv F (dK F (eF F 41 (eB F [40] (eE F s)))) W1)=>uD hF hL HL h1 hq4 (hB4.mono (by omega)) hb);have H0:=aa (Mz.start h);clear h
   go_wp2_with (first
     | (go_at_call 259;with_reducible refine(HC1.out _ H0.out.m).mono (Mz.k H0 fun hw1 H1=>?_))
     | (go_at_call 100;with_reducible refine(HC2.out _ H1.out.m).mono (Mz.k H1 fun hw2 H2=>?_))
     | (go_at_call 260;with_reducible refine(HC3.out _ H2.out.m).mono (Mz.k H2 fun hw3 H3=>?_))
     | (go_at_call 138;with_reducible refine(HC4.out _ H3.out.m).mono (Mz.k H3 fun hw4 H4=>?_))
     | (go_at_call 171;with_reducible refine(HC5.out _ H4.out.m).mono (Mz.k H4 fun hw5 H5=>?_))
     | (go_at_call 238;with_reducible refine(HC6.out _ H5.out.m).mono (Mz.k H5 fun hw6 H6=>?_))
     | fail)
   first|go_end0|refine bn ?_
   refine⟨rfl,?_⟩;rw[HT.out];unfold my;simp only;rw[aD hb];exact H6.out
theorem Jq (hF:FB F) (hL:GL F L) (HL:gH g fv F L q) (h:Mk g fv F s W) (hq:q≤s.p+1) (hB:Bd F 26 s) (hf:mW F s=true) :
    Calls Tryz.prog 240 #[.pointer (some ⟨g,0,none⟩),.int .i64 16,.func (.func 241) #[.pointer (some ⟨g,0,none⟩)] #[]] W fun e w'=>e=.returned (.tuple #[])∧Mz g fv F W (kJ 16 (my F L) s) w':=by
  have hx:sg F s.p=120∧s.deep<200:=by unfold mW at hf;simp at hf;exact⟨hf.1,hf.2.2.1⟩
  have hi:Bd F 27 (fC 16 {s with deep:=s.deep+1}):=⟨hB.p,by have:=hB.l;show (s.l++[_]).length≤46*s.p+27;rw[aH];show s.l.length+1≤_;omega,by show s.deep+1≤200;omega⟩;have hg:=(wY hL (s:=fC 16 {s with deep:=s.deep+1}) hx.1).1;have hn:=hF.n;have h1:=hg.l;have h2:=hg.N;have h3:=hg.dp;have l1:(fC 16 {s with deep:=s.deep+1}).l.length=s.l.length+1:=by show (s.l++[_]).length=_;simp
  exact yK (s:=s) (t:=my F L (fC 16 {s with deep:=s.deep+1})) 16 _ #[.pointer (some ⟨g,0,none⟩)] #[] h (hB.l5 hF (by omega)) (by omega) (by omega) (enters_of Tryz.func241 (by kernel_rfl) rfl)
    (fun W1 z1=>G7 hF hL HL z1.m hq (hi.mono (by omega))) (by omega) (by omega) (h3.trans rfl)
theorem Jp (hF:FB F) (h:Mk g fv F s W) (hB:Bd F 26 s) :
    Calls Tryz.prog 58 #[.pointer (some ⟨g,0,none⟩),.int .i64 5,.func (.func 242) #[.pointer (some ⟨g,0,none⟩)] #[]] W fun e w'=>e=.returned (.tuple #[])∧Mz g fv F W (dO 5 (fP F) s) w':=by
  have hi:=hB.inn 5;have hg:=wX (F:=F) hi.p;have hn:=hF.n;have h1:=hg.l;have h2:=hg.N;rw[oL] at h1;exact tX (t:=fP F (fC 5 s)) 5 _ h (hB.l5 hF (by omega)) (by omega) (enters_of Tryz.func242 (by kernel_rfl) rfl) (fun W1 z1=>Ex hF z1.m hi) (by omega) (by omega)
theorem vR (hF:FB F) (hL:GL F L) (HL:gH g fv F L q) (h:Mk g fv F s W) (hq:q≤s.p+1) (hB:Bd F 26 s) :
    lD 206 g fv F W (.tuple #[]) (iS F L s):=by
  obtain⟨T,hT⟩:∃T,T=iS F L s:=⟨_,rfl⟩;rw[←hT];have HT:=aa hT;clear hT;go_enter Tryz.func206,Tryz.ntmps206
  cases hb:gu F s
  ·cases hf:mW F s
   ·cases hc:ng F s
    ·have HC1:=aa (fun W1 (h1:Mk g fv F (s) W1)=>lg hF h1 hB.p hb);have HC2:=aa (fun W1 (h1:Mk g fv F (s) W1)=>sq hF h1 hB.p hf);have HC3:=aa (fun W1 (h1:Mk g fv F (s) W1)=>zF hF h1 hB.p hc);have HC4:=aa (fun W1 (h1:Mk g fv F (s) W1)=>fT hF h1 (hB.mono (by omega)));have H0:=aa (Mz.start h);clear h
     go_wp2_with (first
       | (go_at_call 171;with_reducible refine(HC1.out _ H0.out.m).mono (Mz.k H0 fun hw1 H1=>?_))
       | (go_at_call 239;with_reducible refine(HC2.out _ H1.out.m).mono (Mz.k H1 fun hw2 H2=>?_))
       | (go_at_call 136;with_reducible refine(HC3.out _ H2.out.m).mono (Mz.k H2 fun hw3 H3=>?_))
       | (go_at_call 204;with_reducible refine(HC4.out _ H3.out.m).mono (Mz.k H3 fun hw4 H4=>?_))
       | fail)
     first|go_end0|refine bn ?_
     refine⟨rfl,?_⟩;rw[HT.out];unfold iS;rw[aB (by rw[hb];decide),aB (by rw[hf];decide),aB (by rw[hc];decide)];exact H4.out
    ·have HC1:=aa (fun W1 (h1:Mk g fv F (s) W1)=>lg hF h1 hB.p hb);have HC2:=aa (fun W1 (h1:Mk g fv F (s) W1)=>sq hF h1 hB.p hf);have HC3:=aa (fun W1 (h1:Mk g fv F (s) W1)=>zE hF h1 hB.p hc);have HC4:=aa (fun W1 (h1:Mk g fv F (s) W1)=>Jp hF h1 hB);have H0:=aa (Mz.start h);clear h
     go_wp2_with (first
       | (go_at_call 171;with_reducible refine(HC1.out _ H0.out.m).mono (Mz.k H0 fun hw1 H1=>?_))
       | (go_at_call 239;with_reducible refine(HC2.out _ H1.out.m).mono (Mz.k H1 fun hw2 H2=>?_))
       | (go_at_call 136;with_reducible refine(HC3.out _ H2.out.m).mono (Mz.k H2 fun hw3 H3=>?_))
       | (go_at_call 58;with_reducible refine(HC4.out _ H3.out.m).mono (Mz.k H3 fun hw4 H4=>?_))
       | fail)
     first|go_end0|refine bn ?_
     refine⟨rfl,?_⟩;rw[HT.out];unfold iS;rw[aB (by rw[hb];decide),aB (by rw[hf];decide),aD hc];exact H4.out
   ·have HC1:=aa (fun W1 (h1:Mk g fv F (s) W1)=>lg hF h1 hB.p hb);have HC2:=aa (fun W1 (h1:Mk g fv F (s) W1)=>zm hF h1 hB.p hf);have HC3:=aa (fun W1 (h1:Mk g fv F (s) W1)=>Jq hF hL HL h1 hq hB hf);have H0:=aa (Mz.start h);clear h
    go_wp2_with (first
      | (go_at_call 171;with_reducible refine(HC1.out _ H0.out.m).mono (Mz.k H0 fun hw1 H1=>?_))
      | (go_at_call 239;with_reducible refine(HC2.out _ H1.out.m).mono (Mz.k H1 fun hw2 H2=>?_))
      | (go_at_call 240;with_reducible refine(HC3.out _ H2.out.m).mono (Mz.k H2 fun hw3 H3=>?_))
      | fail)
    first|go_end0|refine bn ?_
    refine⟨rfl,?_⟩;rw[HT.out];unfold iS;rw[aB (by rw[hb];decide),aD hf];exact H3.out
  ·have HC1:=aa (fun W1 (h1:Mk g fv F (s) W1)=>qP hF h1 hB.p hb);have HC2:=aa (fun W1 (h1:Mk g fv F (s) W1)=>uD hF hL HL h1 hq (hB.mono (by omega)) hb);have H0:=aa (Mz.start h);clear h
   go_wp2_with (first
     | (go_at_call 171;with_reducible refine(HC1.out _ H0.out.m).mono (Mz.k H0 fun hw1 H1=>?_))
     | (go_at_call 238;with_reducible refine(HC2.out _ H1.out.m).mono (Mz.k H1 fun hw2 H2=>?_))
     | fail)
   first|go_end0|refine bn ?_
   refine⟨rfl,?_⟩;rw[HT.out];unfold iS;rw[aD hb];exact H2.out
theorem Jg (hF:FB F) (hL:GL F L) (HL:gH g fv F L q) (h:Mk g fv F s W) (hq:q≤s.p+1) (hB:Bd F 25 s) (hb0:Bk W bx 86 #[.pointer (some ⟨g,0,none⟩)]) :
    Calls Tryz.prog 205 #[.pointer (some ⟨bx,0,none⟩)] W fun e w'=>e=.returned (.tuple #[])∧Mz g fv F W (jF F L s) w':=by
  obtain⟨T,hT⟩:∃T,T=jF F L s:=⟨_,rfl⟩;rw[←hT];have HT:=aa hT;clear hT;have hg1:=gr (F:=F) (cs:=[33]) (by decide) hB.p;have hB1:=hB.gd hg1;have hq1:q≤(eB F [33] s).p+1:=aA hq (bH hg1.p);have hg2:=uq hL hB1.p;have hB2:=hB1.gd hg2;have hq2:q≤(iS F L (eB F [33] s)).p+1:=aA hq1 (bH hg2.p);have HBX:=aa hb0;clear hb0;have b0:=HBX.out.cell 0;have HC1:=aa (fun W1 (h1:Mk g fv F (s) W1)=>lV hF h1 hB.p [33] (by decide));have HC2:=aa (fun W1 (h1:Mk g fv F (eB F [33] s) W1)=>vR hF hL HL h1 hq1 (hB1.mono (by omega)));have H0:=aa (Mz.start h);clear h;go_enter Tryz.func205,Tryz.ntmps205
  go_wp2_with (first
    | (go_at_call 100;with_reducible refine(HC1.out _ H0.out.m).mono ?_
       rintro e hw1 ⟨rfl,hz⟩;have H1:=aa (H0.out.then hz);have b0:=(Bk.kt HBX.out H1.out.f.kt (by decide)).cell 0;clear hz)
    | (go_at_call 206;with_reducible refine(HC2.out _ H1.out.m).mono ?_
       rintro e hw2 ⟨rfl,hz⟩;have H2:=aa (H1.out.then hz);have b0:=(Bk.kt HBX.out H2.out.f.kt (by decide)).cell 0;clear hz)
    | fail)
  go_loopw [] (fun wr=>∃u:Ps,q≤u.p+1∧Bd F 26 u∧(eO F.length (fun s=>if dQ F [124] s=true then (iS F L (dK F (dM s)),true) else (s,false))) u=(eO F.length (fun s=>if dQ F [124] s=true then (iS F L (dK F (dM s)),true) else (s,false))) (iS F L (eB F [33] s))∧Mz g fv F W u wr) (fun wr=>F.length-pOf g wr)
  case atStart=>exact⟨_,hq2,hB2,rfl,H2.out⟩
  case round=>
    obtain⟨u,hqu,hBu,hlu,hz⟩:=hrel;have U0:=aa hz;have HU:=aa hlu;have hup:=hz.m.pOf;have HP:=aa hup;clear hz hlu hup
    cases hb:dQ F [124] u
    ·have HE:=aa (HU.out.symm.trans (LC.stepn (lN hL) hBu.p (t:=u) (by show (if _ then _ else _)=_;rw[aB (by rw[hb];decide)])));have NC1:=aa (fun W1 (h1:Mk g fv F (u) W1)=>fA hF h1 hBu.p [124] (by decide) hb);have b0:=(Bk.kt HBX.out U0.out.f.kt (by decide)).cell 0;go_wp2_with (
       (go_at_call 100;with_reducible refine(NC1.out _ U0.out.m).mono ?_
        rintro e nw1 ⟨rfl,hz⟩;have N1:=aa (U0.out.then hz);have b0:=(Bk.kt HBX.out N1.out.f.kt (by decide)).cell 0;clear hz))
     first|go_end0|refine bn ?_
     refine⟨rfl,?_⟩;rw[HT.out];unfold jF;rw[HE.out];exact N1.out
    ·have hy:=LC.y ((lN hL) u hBu.p) (t:=iS F L (dK F (dM u))) (by show (if _ then _ else _)=_;rw[aD hb]);have HE:=aa ((LC.stepy (lN hL) hBu.p (t:=iS F L (dK F (dM u))) (by show (if _ then _ else _)=_;rw[aD hb])).symm.trans HU.out);have hlt:=eh hb (by decide);have hn1:=hBu.next hlt (by omega);have hg4:=dY (F:=F) hn1.p;have hB4:=hn1.gd hg4;have hq4:q≤(dK F (dM u)).p+1:=aA hqu (bH (aA (cg _) hg4.p));have YC1:=aa (fun W1 (h1:Mk g fv F (u) W1)=>fV hF h1 hBu.p [124] (by decide) hb);have YC2:=aa (fun W1 (h1:Mk g fv F (dM u) W1)=>fM hF h1 hn1.p);have YC3:=aa (fun W1 (h1:Mk g fv F (dK F (dM u)) W1)=>vR hF hL HL h1 hq4 (hB4.mono (by omega)));have b0:=(Bk.kt HBX.out U0.out.f.kt (by decide)).cell 0
     go_wp2_with (first
       | (go_at_call 100;with_reducible refine(YC1.out _ U0.out.m).mono ?_
          rintro e yw1 ⟨rfl,hz⟩;have Y1:=aa (U0.out.then hz);have b0:=(Bk.kt HBX.out Y1.out.f.kt (by decide)).cell 0;clear hz)
       | (go_at_call 138;with_reducible refine(YC2.out _ Y1.out.m).mono ?_
          rintro e yw2 ⟨rfl,hz⟩;have Y2:=aa (Y1.out.then hz);have b0:=(Bk.kt HBX.out Y2.out.f.kt (by decide)).cell 0;clear hz)
       | (go_at_call 206;with_reducible refine(YC3.out _ Y2.out.m).mono ?_
          rintro e yw3 ⟨rfl,hz⟩;have Y3:=aa (Y2.out.then hz);have b0:=(Bk.kt HBX.out Y3.out.f.kt (by decide)).cell 0;clear hz)
       | fail)
     refine⟨⟨_,aA hqu (bH (bq hy.2)),hBu.gd hy.1,HE.out,Y3.out⟩,?_⟩;rw[Y3.out.m.pOf,HP.out]
     have:=hy.2
     have:=hy.1.N
     omega
theorem FA (hF:FB F) (hL:GL F L) (HL:gH g fv F L q) (h:Mk g fv F s W) (hq:q≤s.p+1) (hB:Bd F 24 s) :
    lD 172 g fv F W (.tuple #[]) (jE F L s):=by
  have hx:∀W0,Mk g fv F s W0→∀bx,Bk W0 bx 86 #[.pointer (some ⟨g,0,none⟩)]→Calls Tryz.prog 58 #[.pointer (some ⟨g,0,none⟩),.int .i64 4,.func (.func 205) #[] #[.pointer (some ⟨bx,0,none⟩)]] W0 fun e w'=>e=.returned (.tuple #[])∧Mz g fv F W0 (dO 4 (jF F L) s) w':=fun W0 h0 bx hbx=>by
    have hi:=hB.inn 4;have hg:=um hL hi.p;have hn:=hF.n;have h1:=hg.l;have h2:=hg.N;rw[oL] at h1;exact rD (t:=jF F L (fC 4 s)) 4 _ #[] #[.pointer (some ⟨bx,0,none⟩)] h0 (hB.l5 hF (by omega)) (by omega) (enters_of Tryz.func205 (by kernel_rfl) rfl) (fun W1 h1=>Jg hF hL HL h1.m hq hi (h1.box hbx (by decide))) (by omega) (by omega)
  have HX:=aa hx;have H0:=aa (Mz.start h);clear hx;obtain⟨T,hT⟩:∃T,T=jE F L s:=⟨_,rfl⟩;rw[←hT];have HT:=aa hT;clear hT
  cases hb:fq F s
  ·have HC1:=aa (fun W1 (h1:Mk g fv F s W1)=>me hF h1 hB.p hb);have HC2:=aa (fun W1 (h1:Mk g fv F s W1)=>fT hF h1 (hB.mono (by omega)));clear h;go_enter Tryz.func172,Tryz.ntmps172;go_upto_region 1 with fail
   refine ki fun W0 hb0 k0 hs0=>?_
   have HBX:=aa k0;have b0:=HBX.out.cell 0;have H1:=aa (H0.out.next hb0);have HZ:=aa (Mz.start H1.out.m);clear hb0 k0 hs0
   go_wp2_with (first
     | (go_at_call 101;with_reducible refine(HC1.out _ HZ.out.m).mono ?_
        rintro e w1 ⟨rfl,hz⟩;have H2:=aa (HZ.out.then hz);have b0:=(Bk.kt HBX.out H2.out.f.kt (by decide)).cell 0;clear hz)
     | (go_at_call 204;with_reducible refine(HC2.out _ H2.out.m).mono (Mz.k H2 fun w2 H3=>?_))
     | fail)
   first|go_end0|refine bn ?_
   refine⟨rfl,?_⟩;rw[HT.out];unfold jE;rw[aB (by rw[hb];decide)];exact H1.out.then H3.out
  ·have HC1:=aa (fun W1 (h1:Mk g fv F s W1)=>mc hF h1 hB.p hb);have HC2:=aa (fun W1 (h1:Mk g fv F s W1)=>fT hF h1 (hB.mono (by omega)));clear h;go_enter Tryz.func172,Tryz.ntmps172;go_upto_region 1 with fail
   refine ki fun W0 hb0 k0 hs0=>?_
   have HBX:=aa k0;have b0:=HBX.out.cell 0;have H1:=aa (H0.out.next hb0);have HZ:=aa (Mz.start H1.out.m);clear hb0 k0 hs0
   go_wp2_with (first
     | (go_at_call 101;with_reducible refine(HC1.out _ HZ.out.m).mono ?_
        rintro e w1 ⟨rfl,hz⟩;have H2:=aa (HZ.out.then hz);have b0:=(Bk.kt HBX.out H2.out.f.kt (by decide)).cell 0;clear hz)
     | (go_at_call 58;refine(HX.out _ H2.out.m _ (Bk.kt HBX.out H2.out.f.kt (by decide))).mono ?_;rintro e w2 ⟨rfl,hz⟩;have H3:=aa (H2.out.then hz);clear hz)
     | fail)
   first|go_end0|refine bn ?_
   refine⟨rfl,?_⟩;rw[HT.out];unfold jE;rw[aD hb];exact H1.out.then H3.out
theorem Kj (hF:FB F) (hL:GL F L) (HL:gH g fv F L q) (h:Mk g fv F s W) (hq:q≤s.p+1) (hB:Bd F 24 s) :
    lD 137 g fv F W (.tuple #[]) (eR F L s):=by
  obtain⟨T,hT⟩:∃T,T=eR F L s:=⟨_,rfl⟩;rw[←hT];have HT:=aa hT;clear hT;have hg2:=uo hL hB.p;have hB2:=hB.gd hg2;have hq2:q≤(jE F L s).p+1:=aA hq (bH hg2.p);have HC1:=aa (fun W1 (h1:Mk g fv F (s) W1)=>FA hF hL HL h1 hq hB);have H0:=aa (Mz.start h);clear h;go_enter Tryz.func137,Tryz.ntmps137;go_wp2_with (
    (go_at_call 172;with_reducible refine(HC1.out _ H0.out.m).mono (Mz.k H0 fun hw1 H1=>?_)))
  go_loopw [] (fun wr=>∃u:Ps,q≤u.p+1∧Bd F 26 u∧(eO F.length (fun s=>if dQ F [97,111] s=true then (jE F L (dK F (dM s)),true) else (s,false))) u=(eO F.length (fun s=>if dQ F [97,111] s=true then (jE F L (dK F (dM s)),true) else (s,false))) (jE F L s)∧Mz g fv F W u wr) (fun wr=>F.length-pOf g wr)
  case atStart=>exact⟨_,hq2,hB2,rfl,H1.out⟩
  case round=>
    obtain⟨u,hqu,hBu,hlu,hz⟩:=hrel;have U0:=aa hz;have HU:=aa hlu;have hup:=hz.m.pOf;have HP:=aa hup;clear hz hlu hup
    cases hb:dQ F [97,111] u
    ·have HE:=aa (HU.out.symm.trans (LC.stepn (su hL) hBu.p (t:=u) (by show (if _ then _ else _)=_;rw[aB (by rw[hb];decide)])));have NC1:=aa (fun W1 (h1:Mk g fv F (u) W1)=>fA hF h1 hBu.p [97,111] (by decide) hb);go_wp2_with (
       (go_at_call 100;with_reducible refine(NC1.out _ U0.out.m).mono (Mz.k U0 fun nw1 N1=>?_)))
     first|go_end0|refine bn ?_
     refine⟨rfl,?_⟩;rw[HT.out];unfold eR;rw[HE.out];exact N1.out
    ·have hy:=LC.y ((su hL) u hBu.p) (t:=jE F L (dK F (dM u))) (by show (if _ then _ else _)=_;rw[aD hb]);have HE:=aa ((LC.stepy (su hL) hBu.p (t:=jE F L (dK F (dM u))) (by show (if _ then _ else _)=_;rw[aD hb])).symm.trans HU.out);have hlt:=eh hb (by decide);have hn1:=hBu.next hlt (by omega);have hg4:=dY (F:=F) hn1.p;have hB4:=hn1.gd hg4;have hq4:q≤(dK F (dM u)).p+1:=aA hqu (bH (aA (cg _) hg4.p));have YC1:=aa (fun W1 (h1:Mk g fv F (u) W1)=>fV hF h1 hBu.p [97,111] (by decide) hb);have YC2:=aa (fun W1 (h1:Mk g fv F (dM u) W1)=>fM hF h1 hn1.p);have YC3:=aa (fun W1 (h1:Mk g fv F (dK F (dM u)) W1)=>FA hF hL HL h1 hq4 (hB4.mono (by omega)))
     go_wp2_with (first
       | (go_at_call 100;with_reducible refine(YC1.out _ U0.out.m).mono (Mz.k U0 fun yw1 Y1=>?_))
       | (go_at_call 138;with_reducible refine(YC2.out _ Y1.out.m).mono (Mz.k Y1 fun yw2 Y2=>?_))
       | (go_at_call 172;with_reducible refine(YC3.out _ Y2.out.m).mono (Mz.k Y2 fun yw3 Y3=>?_))
       | fail)
     refine⟨⟨_,aA hqu (bH (bq hy.2)),hBu.gd hy.1,HE.out,Y3.out⟩,?_⟩;rw[Y3.out.m.pOf,HP.out]
     have:=hy.2
     have:=hy.1.N
     omega
end Go.Proofs.YtcagfamdoaoimaaGreatDoor
