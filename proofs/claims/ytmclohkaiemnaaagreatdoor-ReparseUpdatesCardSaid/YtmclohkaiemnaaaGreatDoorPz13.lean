/- The parser: compounds. -/
import Derived.Test.YtmclohkaiemnaaaGreatDoorPw13
import Derived.Laws.EntriesVeiled
set_option linter.unusedVariables false
set_option linter.unusedSimpArgs false
set_option maxRecDepth 100000
set_option maxHeartbeats 8000000
namespace Go.Proofs.YtmclohkaiemnaaaGreatDoor
open Go.RowKit
variable {cs ds:Array Value} {F:List Lf} {a b g q bx by_ fX k:Nat} {u s:Ps} {L X:Ps→Ps} {t ty:TypeId} {fv v:Value} {w W W1:World}
theorem MH {u:TypeId} (h:Bk w a t cs) (k:Bk w b u ds) (hne:t≠u):a≠b:=by
  rintro rfl;unfold Bk at h k;rw[h] at k;injection k with k
  injection k with _ k
  exact hne k
theorem Mz.setNew (h:Mz g fv F W s W1) (hk:Bk W1 b ty cs) (hb:W.heap.size≤b) (hg:g≤b) (ht:ty∉[78,52]) (hl:42≠ty) :
    Mz g fv F W s (W1.setCell ⟨b,0,none⟩ v):=by
  obtain⟨lv,h1,h2⟩:=h.m.w;have e1:78≠ty:=fun e=>ht (by rw[←e];simp)
  have e2:52≠ty:=fun e=>ht (by rw[←e];simp)
  have hne:g≠b:=MH h1 hk e1;refine⟨⟨⟨lv,h1.far (p:=⟨b,0,none⟩) hne v,fh h2 (eP h2 hk e2) v⟩,h.m.f.keep ((ay g W1).setCell (p:=⟨b,0,none⟩) hg v) (au _)⟩,⟨h.f.hb.setCell (p:=⟨b,0,none⟩) hg v,fun k o hk1 ho=>?_⟩⟩;have h3:=(aJ.1 hk1).1
  exact(bX _ _ _ k (by show k≠b;omega)).trans (h.f.kt k o hk1 ho)
theorem Gx (hF:FB F) (hL:GL F L) (HL:ia g fv F L q) (h:Mk g fv F s W) (hq:q≤s.p) (hB:Bd F 0 s) :
    lw 176 g fv F W (.tuple #[]) (gR F L s):=by
  cases hw:iw F s.p
  ·exact J9 hF hL HL h hq hB hw
  ·cases hn:iC (tx F s.p)
   ·exact J8 hF hL HL h hq hB hw hn
   ·exact J7 hF hL HL h hq hB hw hn
theorem kP (hF:FB F) (h:Mk g fv F s W) (hs:s.p<F.length) (hB:Bd F 30 s) (hd:s.deep<200) (hk:k≤18) (hb:Bk W bx 76 #[.pointer (some ⟨g,0,none⟩)]) (hm:Bk W by_ 1 #[.func (.func fX) #[.pointer (some ⟨g,0,none⟩)] #[]]) (eg:∀args w,(callFunc fX args).run Tryz.prog w=.ok (.enter fX args) w) (hg:∀t:Ps,t.p≤F.length→Gd F.length 14 t (X t)) (hX:∀(t:Ps) W1,t.p=s.p+1→Bd F 0 t→Mk g fv F t W1→Calls Tryz.prog fX #[.pointer (some ⟨g,0,none⟩)] W1 fun e w'=>e=.returned (.tuple #[])∧Mz g fv F W1 (X t) w') :
    Calls Tryz.prog 146 #[.pointer (some ⟨g,0,none⟩),.int .i64 (k:Int),.func (.func 178) #[] #[.pointer (some ⟨bx,0,none⟩),.pointer (some ⟨by_,0,none⟩)]] W fun e w'=>e=.returned (.tuple #[])∧Mz g fv F W (jI k (fun t=>gH F (X (dY t))) s) w':=by
  have hi:Bd F 31 (fG k {s with deep:=s.deep+1}):=⟨hB.p,by have:=hB.l;show (s.l++[_]).length≤46*s.p+31;rw[aD];show s.l.length+1≤_;omega,by show s.deep+1≤200;omega⟩;have hn:=hi.next hs (by omega);have g1:=hg _ hn.p;have hB1:=hn.gd g1;have g2:=mz (F:=F) hB1.p;have hN:=hF.n;have l1:(dY (fG k {s with deep:=s.deep+1})).l.length=s.l.length+1:=by show (s.l++[_]).length=_;simp
  have h1:=g1.l;have h2:=g2.l;have h3:=g2.N;have h4:=g2.dp;have h5:=g1.dp
  exact yn (s:=s) (t:=gH F (X (dY (fG k {s with deep:=s.deep+1})))) k _ #[] #[.pointer (some ⟨bx,0,none⟩),.pointer (some ⟨by_,0,none⟩)] h (hB.l5 hF (by omega)) hk (by omega)
    (enters_of Tryz.func178 (by kernel_rfl) rfl)
    (fun W1 z1=>yW (s:=fG k {s with deep:=s.deep+1}) hF z1.m hs (hB1.mono (by omega)) (z1.box hb (by decide)) (z1.box hm (by decide)) eg (fun W2 z2=>hX _ _ rfl hn z2)) (by omega) (by omega) (h4.trans (h5.trans rfl))
theorem Kd (hF:FB F) (hL:GL F L) (HL:ia g fv F L q) (h:Mk g fv F s W) (hq:q≤s.p+1) (hB:Bd F 30 s) (hb:gy F s=true) (hc:sg F s.p=123) :
    lw 144 g fv F W (.tuple #[]) (g9 F L s):=by
  have hs:=iP hb;have hd:s.deep<200:=by
    unfold gy at hb;rw[aR] at hb;exact cW hb.1
  have hT:g9 F L s=jI 9 (fun t=>gH F ((fun t=>eE F 125 (eI F L t)) (dY t))) s:=by
    unfold g9;rw[hc];rfl
  rw[hT];clear hT;have hgX:∀t:Ps,t.p≤F.length→Gd F.length 14 t (eE F 125 (eI F L t)):=fun t ht=>l6 hL 123 ht
  have hmix:Tryz.prog.follows .mixedOrders=true:=by kernel_rfl
  have HN:=ac (fun W1 (h1:Mk g fv F s W1) bx by_ hbx hby=>kP (bx:=bx) (by_:=by_) (fX:=172) (X:=fun t=>eE F 125 (eI F L t)) (k:=9) hF h1 hs hB hd (by omega) hbx hby (enters_of Tryz.func172 (by kernel_rfl) rfl) hgX (fun t W2 ht hBt h2=>Kl hF hL HL h2 (by omega) hBt));have HC1:=ac (fun W1 (h1:Mk g fv F s W1)=>km hF h1 hB.p 123 hc.symm);have hgl:=h.lt;have H0:=ac (Mz.start h);clear h hc hb hd hgX;go_enter Tryz.func144,Tryz.ntmps144;go_upto_region 1 with fail
  refine li fun W0 hb0 k0 hs0=>?_
  have HBX:=ac k0;have b0:=HBX.out.cell 0;have hbl:=HBX.out.lt;have hW0:W.heap.size≤W0.heap.size:=by omega
  have hgW:g≤W0.heap.size:=by omega
  have H1:=ac (H0.out.next hb0);clear hb0 k0 hs0;go_region
  skip
  have hB3:Below W0.heap.size W0 ((W0.alloc (.cells #[(.func (.func 172) #[.pointer (some ⟨g,0,none⟩)] #[])] 1)).drew):=((ay _ W0).alloc (au _) _).drew;have ky:Bk ((W0.alloc (.cells #[(.func (.func 172) #[.pointer (some ⟨g,0,none⟩)] #[])] 1)).drew) W0.heap.size 1 #[(.func (.func 172) #[.pointer (some ⟨g,0,none⟩)] #[])]:=Bk.new W0 _ _;generalize ((W0.alloc (.cells #[(.func (.func 172) #[.pointer (some ⟨g,0,none⟩)] #[])] 1)).drew)=W3 at ky hB3 ⊢;have HK:=ac ky;have H3:=ac (H1.out.next hB3);have HX3:=ac (HBX.out.below hB3 hbl);clear ky hB3;clear b0;have b0:=HX3.out.cell 0;go_upto_region 3 with (
    (go_at_call 61;with_reducible refine(HC1.out _ H3.out.m).mono ?_
     rintro e w4 ⟨rfl,hz⟩;have H4:=ac (H3.out.then hz);have HK4:=ac (Bk.kt HK.out hz.f.kt (by decide));have HX4:=ac (Bk.kt HX3.out hz.f.kt (by decide));clear hz))
  have b0:=HX4.out.cell 0;have H5:=ac H4.out;have HK5:=ac HK4.out;have HX5:=ac HX4.out;go_wp2_with (
    (go_at_call 146;refine(HN.out _ H5.out.m _ _ HX5.out HK5.out).mono ?_;rintro e w6 ⟨rfl,hz⟩;have H6:=ac (H5.out.then hz);clear hz))
  first|go_end0|refine bn ?_
  exact⟨rfl,H6.out⟩
theorem GM (hF:FB F) (hL:GL F L) (HL:ia g fv F L q) (h:Mk g fv F s W) (hq:q≤s.p+1) (hB:Bd F 30 s) (hb:gy F s=true) (hc:sg F s.p=40) :
    lw 144 g fv F W (.tuple #[]) (g9 F L s):=by
  have hs:=iP hb;have hd:s.deep<200:=by
    unfold gy at hb;rw[aR] at hb;exact cW hb.1
  have hT:g9 F L s=jI 10 (fun t=>gH F ((fun t=>eE F 41 (eI F L t)) (dY t))) s:=by
    unfold g9;rw[hc];rfl
  rw[hT];clear hT;have hgX:∀t:Ps,t.p≤F.length→Gd F.length 14 t (eE F 41 (eI F L t)):=fun t ht=>l6 hL 40 ht
  have hmix:Tryz.prog.follows .mixedOrders=true:=by kernel_rfl
  have HN:=ac (fun W1 (h1:Mk g fv F s W1) bx by_ hbx hby=>kP (bx:=bx) (by_:=by_) (fX:=173) (X:=fun t=>eE F 41 (eI F L t)) (k:=10) hF h1 hs hB hd (by omega) hbx hby (enters_of Tryz.func173 (by kernel_rfl) rfl) hgX (fun t W2 ht hBt h2=>zI hF hL HL h2 (by omega) hBt));have HC1:=ac (fun W1 (h1:Mk g fv F s W1)=>km hF h1 hB.p 40 hc.symm);have hgl:=h.lt;have H0:=ac (Mz.start h);clear h hc hb hd hgX;go_enter Tryz.func144,Tryz.ntmps144;go_upto_region 1 with fail
  refine li fun W0 hb0 k0 hs0=>?_
  have HBX:=ac k0;have b0:=HBX.out.cell 0;have hbl:=HBX.out.lt;have hW0:W.heap.size≤W0.heap.size:=by omega
  have hgW:g≤W0.heap.size:=by omega
  have H1:=ac (H0.out.next hb0);clear hb0 k0 hs0;go_region
  skip
  have hB3:Below W0.heap.size W0 ((W0.alloc (.cells #[(.func (.func 172) #[.pointer (some ⟨g,0,none⟩)] #[])] 1)).drew):=((ay _ W0).alloc (au _) _).drew;have ky:Bk ((W0.alloc (.cells #[(.func (.func 172) #[.pointer (some ⟨g,0,none⟩)] #[])] 1)).drew) W0.heap.size 1 #[(.func (.func 172) #[.pointer (some ⟨g,0,none⟩)] #[])]:=Bk.new W0 _ _;generalize ((W0.alloc (.cells #[(.func (.func 172) #[.pointer (some ⟨g,0,none⟩)] #[])] 1)).drew)=W3 at ky hB3 ⊢;have HK:=ac ky;have H3:=ac (H1.out.next hB3);have HX3:=ac (HBX.out.below hB3 hbl);clear ky hB3;clear b0;have b0:=HX3.out.cell 0;go_upto_region 4 with (
    (go_at_call 61;with_reducible refine(HC1.out _ H3.out.m).mono ?_
     rintro e w4 ⟨rfl,hz⟩;have H4:=ac (H3.out.then hz);have HK4:=ac (Bk.kt HK.out hz.f.kt (by decide));have HX4:=ac (Bk.kt HX3.out hz.f.kt (by decide));clear hz))
  have b0:=HX4.out.cell 0;have m0:=HK4.out.cell 0;simp only[aT,aQ] at m0;have m1:=HK4.out.frozen 0;go_region;all_goals (
    have hne:W.heap.size≠W0.heap.size:=by omega
    have H5:=ac ((Mz.setNew (v:=(.func (.func 173) #[.pointer (some ⟨g,0,none⟩)] #[])) H4.out HK4.out hW0 hgW (by decide) (by decide)).next (ay _ _).drew);have k5:Bk _ W0.heap.size 1 #[(.func (.func 173) #[.pointer (some ⟨g,0,none⟩)] #[])]:=(HK4.out.set 0 _).drew;have HK5:=ac k5;have HX5:=ac (HX4.out.far (p:=⟨W0.heap.size,0,none⟩) hne (.func (.func 173) #[.pointer (some ⟨g,0,none⟩)] #[])).drew;clear k5;go_wp2_with (
      (go_at_call 146;refine(HN.out _ H5.out.m _ _ HX5.out HK5.out).mono ?_;rintro e w6 ⟨rfl,hz⟩;have H6:=ac (H5.out.then hz);clear hz))
    first|go_end0|refine bn ?_
    exact⟨rfl,H6.out⟩)
theorem GK (hF:FB F) (hL:GL F L) (HL:ia g fv F L q) (h:Mk g fv F s W) (hq:q≤s.p+1) (hB:Bd F 30 s) (hb:gy F s=true) (hc:sg F s.p=105) :
    lw 144 g fv F W (.tuple #[]) (g9 F L s):=by
  have hs:=iP hb;have hd:s.deep<200:=by
    unfold gy at hb;rw[aR] at hb;exact cW hb.1
  have hT:g9 F L s=jI 11 (fun t=>gH F ((fun t=>ki F L t) (dY t))) s:=by
    unfold g9;rw[hc];rfl
  rw[hT];clear hT;have hgX:∀t:Ps,t.p≤F.length→Gd F.length 14 t (ki F L t):=fun t ht=>l6 hL 105 ht
  have hmix:Tryz.prog.follows .mixedOrders=true:=by kernel_rfl
  have HN:=ac (fun W1 (h1:Mk g fv F s W1) bx by_ hbx hby=>kP (bx:=bx) (by_:=by_) (fX:=174) (X:=fun t=>ki F L t) (k:=11) hF h1 hs hB hd (by omega) hbx hby (enters_of Tryz.func174 (by kernel_rfl) rfl) hgX (fun t W2 ht hBt h2=>AP hF hL HL h2 (by omega) hBt));have HC1:=ac (fun W1 (h1:Mk g fv F s W1)=>km hF h1 hB.p 105 hc.symm);have hgl:=h.lt;have H0:=ac (Mz.start h);clear h hc hb hd hgX;go_enter Tryz.func144,Tryz.ntmps144;go_upto_region 1 with fail
  refine li fun W0 hb0 k0 hs0=>?_
  have HBX:=ac k0;have b0:=HBX.out.cell 0;have hbl:=HBX.out.lt;have hW0:W.heap.size≤W0.heap.size:=by omega
  have hgW:g≤W0.heap.size:=by omega
  have H1:=ac (H0.out.next hb0);clear hb0 k0 hs0;go_region
  skip
  have hB3:Below W0.heap.size W0 ((W0.alloc (.cells #[(.func (.func 172) #[.pointer (some ⟨g,0,none⟩)] #[])] 1)).drew):=((ay _ W0).alloc (au _) _).drew;have ky:Bk ((W0.alloc (.cells #[(.func (.func 172) #[.pointer (some ⟨g,0,none⟩)] #[])] 1)).drew) W0.heap.size 1 #[(.func (.func 172) #[.pointer (some ⟨g,0,none⟩)] #[])]:=Bk.new W0 _ _;generalize ((W0.alloc (.cells #[(.func (.func 172) #[.pointer (some ⟨g,0,none⟩)] #[])] 1)).drew)=W3 at ky hB3 ⊢;have HK:=ac ky;have H3:=ac (H1.out.next hB3);have HX3:=ac (HBX.out.below hB3 hbl);clear ky hB3;clear b0;have b0:=HX3.out.cell 0;go_upto_region 6 with (
    (go_at_call 61;with_reducible refine(HC1.out _ H3.out.m).mono ?_
     rintro e w4 ⟨rfl,hz⟩;have H4:=ac (H3.out.then hz);have HK4:=ac (Bk.kt HK.out hz.f.kt (by decide));have HX4:=ac (Bk.kt HX3.out hz.f.kt (by decide));clear hz))
  have b0:=HX4.out.cell 0;have m0:=HK4.out.cell 0;simp only[aT,aQ] at m0;have m1:=HK4.out.frozen 0;go_region;all_goals (
    have hne:W.heap.size≠W0.heap.size:=by omega
    have H5:=ac ((Mz.setNew (v:=(.func (.func 174) #[.pointer (some ⟨g,0,none⟩)] #[])) H4.out HK4.out hW0 hgW (by decide) (by decide)).next (ay _ _).drew);have k5:Bk _ W0.heap.size 1 #[(.func (.func 174) #[.pointer (some ⟨g,0,none⟩)] #[])]:=(HK4.out.set 0 _).drew;have HK5:=ac k5;have HX5:=ac (HX4.out.far (p:=⟨W0.heap.size,0,none⟩) hne (.func (.func 174) #[.pointer (some ⟨g,0,none⟩)] #[])).drew;clear k5;go_wp2_with (
      (go_at_call 146;refine(HN.out _ H5.out.m _ _ HX5.out HK5.out).mono ?_;rintro e w6 ⟨rfl,hz⟩;have H6:=ac (H5.out.then hz);clear hz))
    first|go_end0|refine bn ?_
    exact⟨rfl,H6.out⟩)
theorem GJ (hF:FB F) (hL:GL F L) (HL:ia g fv F L q) (h:Mk g fv F s W) (hq:q≤s.p+1) (hB:Bd F 30 s) (hb:gy F s=true) (hc:sg F s.p=119) :
    lw 144 g fv F W (.tuple #[]) (g9 F L s):=by
  have hs:=iP hb;have hd:s.deep<200:=by
    unfold gy at hb;rw[aR] at hb;exact cW hb.1
  have hT:g9 F L s=jI 12 (fun t=>gH F ((fun t=>vp F L (eI F L t)) (dY t))) s:=by
    unfold g9;rw[hc];rfl
  rw[hT];clear hT;have hgX:∀t:Ps,t.p≤F.length→Gd F.length 14 t (vp F L (eI F L t)):=fun t ht=>l6 hL 119 ht
  have hmix:Tryz.prog.follows .mixedOrders=true:=by kernel_rfl
  have HN:=ac (fun W1 (h1:Mk g fv F s W1) bx by_ hbx hby=>kP (bx:=bx) (by_:=by_) (fX:=175) (X:=fun t=>vp F L (eI F L t)) (k:=12) hF h1 hs hB hd (by omega) hbx hby (enters_of Tryz.func175 (by kernel_rfl) rfl) hgX (fun t W2 ht hBt h2=>Mc hF hL HL h2 (by omega) hBt));have HC1:=ac (fun W1 (h1:Mk g fv F s W1)=>km hF h1 hB.p 119 hc.symm);have hgl:=h.lt;have H0:=ac (Mz.start h);clear h hc hb hd hgX;go_enter Tryz.func144,Tryz.ntmps144;go_upto_region 1 with fail
  refine li fun W0 hb0 k0 hs0=>?_
  have HBX:=ac k0;have b0:=HBX.out.cell 0;have hbl:=HBX.out.lt;have hW0:W.heap.size≤W0.heap.size:=by omega
  have hgW:g≤W0.heap.size:=by omega
  have H1:=ac (H0.out.next hb0);clear hb0 k0 hs0;go_region
  skip
  have hB3:Below W0.heap.size W0 ((W0.alloc (.cells #[(.func (.func 172) #[.pointer (some ⟨g,0,none⟩)] #[])] 1)).drew):=((ay _ W0).alloc (au _) _).drew;have ky:Bk ((W0.alloc (.cells #[(.func (.func 172) #[.pointer (some ⟨g,0,none⟩)] #[])] 1)).drew) W0.heap.size 1 #[(.func (.func 172) #[.pointer (some ⟨g,0,none⟩)] #[])]:=Bk.new W0 _ _;generalize ((W0.alloc (.cells #[(.func (.func 172) #[.pointer (some ⟨g,0,none⟩)] #[])] 1)).drew)=W3 at ky hB3 ⊢;have HK:=ac ky;have H3:=ac (H1.out.next hB3);have HX3:=ac (HBX.out.below hB3 hbl);clear ky hB3;clear b0;have b0:=HX3.out.cell 0;go_upto_region 8 with (
    (go_at_call 61;with_reducible refine(HC1.out _ H3.out.m).mono ?_
     rintro e w4 ⟨rfl,hz⟩;have H4:=ac (H3.out.then hz);have HK4:=ac (Bk.kt HK.out hz.f.kt (by decide));have HX4:=ac (Bk.kt HX3.out hz.f.kt (by decide));clear hz))
  have b0:=HX4.out.cell 0;have m0:=HK4.out.cell 0;simp only[aT,aQ] at m0;have m1:=HK4.out.frozen 0;go_region;all_goals (
    have hne:W.heap.size≠W0.heap.size:=by omega
    have H5:=ac ((Mz.setNew (v:=(.func (.func 175) #[.pointer (some ⟨g,0,none⟩)] #[])) H4.out HK4.out hW0 hgW (by decide) (by decide)).next (ay _ _).drew);have k5:Bk _ W0.heap.size 1 #[(.func (.func 175) #[.pointer (some ⟨g,0,none⟩)] #[])]:=(HK4.out.set 0 _).drew;have HK5:=ac k5;have HX5:=ac (HX4.out.far (p:=⟨W0.heap.size,0,none⟩) hne (.func (.func 175) #[.pointer (some ⟨g,0,none⟩)] #[])).drew;clear k5;go_wp2_with (
      (go_at_call 146;refine(HN.out _ H5.out.m _ _ HX5.out HK5.out).mono ?_;rintro e w6 ⟨rfl,hz⟩;have H6:=ac (H5.out.then hz);clear hz))
    first|go_end0|refine bn ?_
    exact⟨rfl,H6.out⟩)
theorem GI (hF:FB F) (hL:GL F L) (HL:ia g fv F L q) (h:Mk g fv F s W) (hq:q≤s.p+1) (hB:Bd F 30 s) (hb:gy F s=true) (hc:sg F s.p=114) :
    lw 144 g fv F W (.tuple #[]) (g9 F L s):=by
  have hs:=iP hb;have hd:s.deep<200:=by
    unfold gy at hb;rw[aR] at hb;exact cW hb.1
  have hT:g9 F L s=jI 13 (fun t=>gH F ((fun t=>gR F L t) (dY t))) s:=by
    unfold g9;rw[hc];rfl
  rw[hT];clear hT;have hgX:∀t:Ps,t.p≤F.length→Gd F.length 14 t (gR F L t):=fun t ht=>l6 hL 114 ht
  have hmix:Tryz.prog.follows .mixedOrders=true:=by kernel_rfl
  have HN:=ac (fun W1 (h1:Mk g fv F s W1) bx by_ hbx hby=>kP (bx:=bx) (by_:=by_) (fX:=176) (X:=fun t=>gR F L t) (k:=13) hF h1 hs hB hd (by omega) hbx hby (enters_of Tryz.func176 (by kernel_rfl) rfl) hgX (fun t W2 ht hBt h2=>Gx hF hL HL h2 (by omega) hBt));have HC1:=ac (fun W1 (h1:Mk g fv F s W1)=>km hF h1 hB.p 114 hc.symm);have hgl:=h.lt;have H0:=ac (Mz.start h);clear h hc hb hd hgX;go_enter Tryz.func144,Tryz.ntmps144;go_upto_region 1 with fail
  refine li fun W0 hb0 k0 hs0=>?_
  have HBX:=ac k0;have b0:=HBX.out.cell 0;have hbl:=HBX.out.lt;have hW0:W.heap.size≤W0.heap.size:=by omega
  have hgW:g≤W0.heap.size:=by omega
  have H1:=ac (H0.out.next hb0);clear hb0 k0 hs0;go_region
  skip
  have hB3:Below W0.heap.size W0 ((W0.alloc (.cells #[(.func (.func 172) #[.pointer (some ⟨g,0,none⟩)] #[])] 1)).drew):=((ay _ W0).alloc (au _) _).drew;have ky:Bk ((W0.alloc (.cells #[(.func (.func 172) #[.pointer (some ⟨g,0,none⟩)] #[])] 1)).drew) W0.heap.size 1 #[(.func (.func 172) #[.pointer (some ⟨g,0,none⟩)] #[])]:=Bk.new W0 _ _;generalize ((W0.alloc (.cells #[(.func (.func 172) #[.pointer (some ⟨g,0,none⟩)] #[])] 1)).drew)=W3 at ky hB3 ⊢;have HK:=ac ky;have H3:=ac (H1.out.next hB3);have HX3:=ac (HBX.out.below hB3 hbl);clear ky hB3;clear b0;have b0:=HX3.out.cell 0;go_upto_region 10 with (
    (go_at_call 61;with_reducible refine(HC1.out _ H3.out.m).mono ?_
     rintro e w4 ⟨rfl,hz⟩;have H4:=ac (H3.out.then hz);have HK4:=ac (Bk.kt HK.out hz.f.kt (by decide));have HX4:=ac (Bk.kt HX3.out hz.f.kt (by decide));clear hz))
  have b0:=HX4.out.cell 0;have m0:=HK4.out.cell 0;simp only[aT,aQ] at m0;have m1:=HK4.out.frozen 0;go_region;all_goals (
    have hne:W.heap.size≠W0.heap.size:=by omega
    have H5:=ac ((Mz.setNew (v:=(.func (.func 176) #[.pointer (some ⟨g,0,none⟩)] #[])) H4.out HK4.out hW0 hgW (by decide) (by decide)).next (ay _ _).drew);have k5:Bk _ W0.heap.size 1 #[(.func (.func 176) #[.pointer (some ⟨g,0,none⟩)] #[])]:=(HK4.out.set 0 _).drew;have HK5:=ac k5;have HX5:=ac (HX4.out.far (p:=⟨W0.heap.size,0,none⟩) hne (.func (.func 176) #[.pointer (some ⟨g,0,none⟩)] #[])).drew;clear k5;go_wp2_with (
      (go_at_call 146;refine(HN.out _ H5.out.m _ _ HX5.out HK5.out).mono ?_;rintro e w6 ⟨rfl,hz⟩;have H6:=ac (H5.out.then hz);clear hz))
    first|go_end0|refine bn ?_
    exact⟨rfl,H6.out⟩)
theorem GH (hF:FB F) (hL:GL F L) (HL:ia g fv F L q) (h:Mk g fv F s W) (hq:q≤s.p+1) (hB:Bd F 30 s) (hb:gy F s=true) (hc:sg F s.p=99) :
    lw 144 g fv F W (.tuple #[]) (g9 F L s):=by
  have hs:=iP hb;have hd:s.deep<200:=by
    unfold gy at hb;rw[aR] at hb;exact cW hb.1
  have hT:g9 F L s=jI 14 (fun t=>gH F ((fun t=>ji F L t) (dY t))) s:=by
    unfold g9;rw[hc];rfl
  rw[hT];clear hT;have hgX:∀t:Ps,t.p≤F.length→Gd F.length 14 t (ji F L t):=fun t ht=>l6 hL 99 ht
  have hmix:Tryz.prog.follows .mixedOrders=true:=by kernel_rfl
  have HN:=ac (fun W1 (h1:Mk g fv F s W1) bx by_ hbx hby=>kP (bx:=bx) (by_:=by_) (fX:=177) (X:=fun t=>ji F L t) (k:=14) hF h1 hs hB hd (by omega) hbx hby (enters_of Tryz.func177 (by kernel_rfl) rfl) hgX (fun t W2 ht hBt h2=>Kk hF hL HL h2 (by omega) hBt));have HC1:=ac (fun W1 (h1:Mk g fv F s W1)=>km hF h1 hB.p 99 hc.symm);have hgl:=h.lt;have H0:=ac (Mz.start h);clear h hc hb hd hgX;go_enter Tryz.func144,Tryz.ntmps144;go_upto_region 1 with fail
  refine li fun W0 hb0 k0 hs0=>?_
  have HBX:=ac k0;have b0:=HBX.out.cell 0;have hbl:=HBX.out.lt;have hW0:W.heap.size≤W0.heap.size:=by omega
  have hgW:g≤W0.heap.size:=by omega
  have H1:=ac (H0.out.next hb0);clear hb0 k0 hs0;go_region
  skip
  have hB3:Below W0.heap.size W0 ((W0.alloc (.cells #[(.func (.func 172) #[.pointer (some ⟨g,0,none⟩)] #[])] 1)).drew):=((ay _ W0).alloc (au _) _).drew;have ky:Bk ((W0.alloc (.cells #[(.func (.func 172) #[.pointer (some ⟨g,0,none⟩)] #[])] 1)).drew) W0.heap.size 1 #[(.func (.func 172) #[.pointer (some ⟨g,0,none⟩)] #[])]:=Bk.new W0 _ _;generalize ((W0.alloc (.cells #[(.func (.func 172) #[.pointer (some ⟨g,0,none⟩)] #[])] 1)).drew)=W3 at ky hB3 ⊢;have HK:=ac ky;have H3:=ac (H1.out.next hB3);have HX3:=ac (HBX.out.below hB3 hbl);clear ky hB3;clear b0;have b0:=HX3.out.cell 0;go_upto_region 12 with (
    (go_at_call 61;with_reducible refine(HC1.out _ H3.out.m).mono ?_
     rintro e w4 ⟨rfl,hz⟩;have H4:=ac (H3.out.then hz);have HK4:=ac (Bk.kt HK.out hz.f.kt (by decide));have HX4:=ac (Bk.kt HX3.out hz.f.kt (by decide));clear hz))
  have b0:=HX4.out.cell 0;have m0:=HK4.out.cell 0;simp only[aT,aQ] at m0;have m1:=HK4.out.frozen 0;go_region;all_goals (
    have hne:W.heap.size≠W0.heap.size:=by omega
    have H5:=ac ((Mz.setNew (v:=(.func (.func 177) #[.pointer (some ⟨g,0,none⟩)] #[])) H4.out HK4.out hW0 hgW (by decide) (by decide)).next (ay _ _).drew);have k5:Bk _ W0.heap.size 1 #[(.func (.func 177) #[.pointer (some ⟨g,0,none⟩)] #[])]:=(HK4.out.set 0 _).drew;have HK5:=ac k5;have HX5:=ac (HX4.out.far (p:=⟨W0.heap.size,0,none⟩) hne (.func (.func 177) #[.pointer (some ⟨g,0,none⟩)] #[])).drew;clear k5;go_wp2_with (
      (go_at_call 146;refine(HN.out _ H5.out.m _ _ HX5.out HK5.out).mono ?_;rintro e w6 ⟨rfl,hz⟩;have H6:=ac (H5.out.then hz);clear hz))
    first|go_end0|refine bn ?_
    exact⟨rfl,H6.out⟩)
theorem uf (hF:FB F) (hL:GL F L) (HL:ia g fv F L q) (h:Mk g fv F s W) (hq:q≤s.p+1) (hB:Bd F 30 s) (hb:gy F s=true) :
    lw 144 g fv F W (.tuple #[]) (g9 F L s):=by
  have hc:sg F s.p∈[123,40,105,119,114,99]:=by
    have h1:=hb;unfold gy at h1;rw[aR] at h1;exact List.contains_iff_mem.1 h1.2
  simp only[bj,dq,or_false] at hc;rcases hc with hc|hc|hc|hc|hc|hc
  ·exact Kd hF hL HL h hq hB hb hc
  ·exact GM hF hL HL h hq hB hb hc
  ·exact GK hF hL HL h hq hB hb hc
  ·exact GJ hF hL HL h hq hB hb hc
  ·exact GI hF hL HL h hq hB hb hc
  ·exact GH hF hL HL h hq hB hb hc
theorem IE (hs:s.p≤F.length) (hb:eS F s=true):fV F s=fV F (fH F s):=by
  unfold fV;rw[LC.stepy ib hs (t:=fH F s) (by show (if _ then _ else _)=_;rw[aB hb])]
theorem IG (hs:s.p≤F.length) (hb:eS F s=false) (hw:iw F s.p=true) (ha:kK (tx F s.p)=true):fV F s=fV F (eD 6 s):=by
  unfold fV;rw[LC.stepy ib hs (t:=eD 6 s) (by show (if _ then _ else if _ then _ else _)=_;rw[aC (by rw[hb];decide),aB (by rw[hw,ha];rfl)])]
theorem ID (hs:s.p≤F.length) (hb:eS F s=false) (hw:iw F s.p=true) (ha:kK (tx F s.p)=false):fV F s=ir F (eD 7 s):=by
  have e:=LC.stepn ib hs (t:=s) (by show (if _ then _ else if _ then _ else _)=_;rw[aC (by rw[hb];decide),aC (by rw[hw,ha];decide)]);unfold fV;simp only[e,hw,bP]
theorem IF (hs:s.p≤F.length) (hb:eS F s=false) (hw:iw F s.p=false):fV F s=s:=by
  have e:=LC.stepn ib hs (t:=s) (by show (if _ then _ else if _ then _ else _)=_;rw[aC (by rw[hb];decide),aC (by rw[hw];exact fun h=>by cases h)]);unfold fV;simp only[e,hw,bp,aH]
theorem II (hs:s.p≤F.length) (hb:eS F s=true):ir F s=ir F (fH F s):=
  LC.stepy jy hs (t:=fH F s) (by show (if _ then _ else _)=_;rw[aB hb])
theorem IH (hs:s.p≤F.length) (hb:eS F s=false) (hw:iw F s.p=true):ir F s=ir F (eD 7 s):=
  LC.stepy jy hs (t:=eD 7 s) (by show (if _ then _ else if _ then _ else _)=_;rw[aC (by rw[hb];decide),aB hw])
theorem IJ (hs:s.p≤F.length) (hb:eS F s=false) (hw:iw F s.p=false):ir F s=s:=
  LC.stepn jy hs (t:=s) (by show (if _ then _ else if _ then _ else _)=_;rw[aC (by rw[hb];decide),aC (by rw[hw];decide)])
structure Sm (F:List Lf) (T u:Ps) (b:Bool):Prop where
  w:(b=false∧fV F u=T)∨(b=true∧ir F u=T)
theorem LF (h:iw F u.p=true):Gd F.length 0 u (eD 6 u)∧u.p<(eD 6 u).p:=⟨(fR (F:=F) (k:=6) (fO h)).2.2,(fR (F:=F) (k:=6) (fO h)).2.1⟩
theorem Ef (h:iw F u.p=true):Gd F.length 0 u (eD 7 u)∧u.p<(eD 7 u).p:=⟨(fR (F:=F) (k:=7) (fO h)).2.2,(fR (F:=F) (k:=7) (fO h)).2.1⟩
theorem Eg (hF:FB F) (h:Mk g fv F s W) (hB:Bd F 27 s) :
    lw 148 g fv F W (.tuple #[]) (fV F s):=by
  have hmix:Tryz.prog.follows .mixedOrders=true:=by kernel_rfl
  obtain⟨T,hT⟩:∃T,T=fV F s:=⟨_,rfl⟩;rw[←hT];have HT:=ac hT;clear hT;have H0:=ac (Mz.start h);clear h;go_enter Tryz.func148,Tryz.ntmps148;go_wp2_with fail;go_step3;go_wp2_with fail;go_step3;go_wp2_with fail;go_loopw [2] (fun v wr=>∃(u:Ps) (b:Bool),v=.bool b∧Bd F 27 u∧Sm F T u b∧Mz g fv F W u wr) (fun _ wr=>F.length-pOf g wr)
  case atStart=>exact⟨s,false,rfl,hB,⟨.inl ⟨rfl,HT.out.symm⟩⟩,H0.out⟩
  case round=>
    obtain⟨u,b,rfl,hBu,hsm,hz⟩:=hrel;have U0:=ac hz;have hup:=hz.m.pOf;have HP:=ac hup;have HS:=ac hsm;clear hz hup hsm
    cases hb:eS F u
    ·cases hw:iw F u.p
     ·have hT9:T=u:=by
        rcases HS.out.w with ⟨_,h2⟩|⟨_,h2⟩
        ·exact h2.symm.trans (IF hBu.p hb hw)
        ·exact h2.symm.trans (IJ hBu.p hb hw)
      have HT9:=ac hT9;clear hT9;have NC1:=ac (fun W1 (h1:Mk g fv F (u) W1)=>jU hF h1 (hBu.mono (by omega)) hb);have NC2:=ac (fun W1 (h1:Mk g fv F (u) W1)=>gP hF h1 hBu.p hw)
      go_wp2_with (first
        | (go_at_call 179;with_reducible refine(NC1.out _ U0.out.m).mono (Mz.k U0 fun nw1 N1=>?_))
        | (go_at_call 183;with_reducible refine(NC2.out _ N1.out.m).mono (Mz.k N1 fun nw2 N2=>?_))
        | fail)
      try rw[aY]
      first|go_end0|refine bn ?_
      refine⟨rfl,?_⟩;rw[HT9.out];exact N2.out
     ·cases b
      ·cases ha:kK (tx F u.p);have h2:fV F u=T:=by
         rcases HS.out.w with ⟨h1,h2⟩|⟨h1,h2⟩
         ·exact h2
         ·cases h1
       have hsm:Sm F T (eD 7 u) true:=⟨.inr ⟨rfl,(ID hBu.p hb hw ha).symm.trans h2⟩⟩;have HS2:=ac hsm;clear hsm h2;have hy:=Ef hw;have NC1:=ac (fun W1 (h1:Mk g fv F (u) W1)=>jU hF h1 (hBu.mono (by omega)) hb);have NC2:=ac (fun W1 (h1:Mk g fv F (u) W1)=>i9 hF h1 hBu.p hw)
       go_upto_region 5 with (first
         | (go_at_call 179;with_reducible refine(NC1.out _ U0.out.m).mono (Mz.k U0 fun nw1 N1=>?_))
         | (go_at_call 183;with_reducible refine(NC2.out _ N1.out.m).mono (Mz.k N1 fun nw2 N2=>?_))
         | fail)
       have SH:=ac N2.out;obtain⟨y0,y1,y3,y4,_⟩:=SH.out.m.cells;have hlt:=fO hw;obtain⟨x,hx⟩:∃x,F[u.p]? = some x:=⟨_,ax hlt⟩;have htx:tx F u.p=x.tx:=by unfold tx;rw[hx]
       have htl:=hF.t x (aI hx);obtain⟨A,c,hfv⟩:=SH.out.m.f.formm;have hf9:=SH.out.m.f;rw[hfv] at hf9;obtain⟨g1,o1,hA9,z0,z1,z2,z3⟩:=gZ hf9 hx rfl;rw[hfv,hA9] at y0;have u1:(u.p:Int)<(F.length:Int):=by omega
       have u2:(0:Int)≤(u.p:Int):=by omega
       have hn9:=fun W=>vy x.tx W (by omega)
       rw[←htx] at hn9;rw[ha] at hn9;rw[htx] at hn9;have HN:=ac hn9;clear hn9 htx hx htl z0 z2 z3 hf9 hA9 hfv y3 y4;obtain⟨S0,hS0⟩:∃S0:World→Prop,S0=fun w'=>Below nw2.heap.size nw2 w':=⟨_,rfl⟩
       refine wp_region_held (S:=S0) hmix ?_;show wpAnyH _ _ _ _ _ _ _ _ nw2.drew;have hS1:S0 nw2.drew:=by rw[hS0];exact(ay _ nw2).drew
       have tc:∀(w':World),S0 w'→∀(a:Addr) (v:Value),nw2.cell? a=some v→w'.cell? a=some v:=fun w' h a v hc=>jc (by rw[hS0] at h;exact h) hc
       refine tk 0 (.bool false) hS1 (fun w' hS=>?_) ?_
       ·go_simp
       try simp only[Act.put,am,ai,aj,aa,an,ar]
       refine tk 1 (.bool true) hS1 (fun w' hS=>?_) ?_
       ·go_simp
       try simp only[Act.put,am,ai,aj,aa,an,ar]
       refine tk 2 (.bool true) hS1 (fun w' hS=>?_) ?_
       ·go_simp
       try simp only[Act.put,am,ai,aj,aa,an,ar]
       refine tk 3 (.pointer (some ⟨g,0,none⟩)) hS1 (fun w' hS=>?_) ?_
       ·go_simp
       try simp only[Act.put,am,ai,aj,aa,an,ar]
       refine tk 4 (.pointer (some ⟨g,0,none⟩)) hS1 (fun w' hS=>?_) ?_
       ·go_simp
       try simp only[Act.put,am,ai,aj,aa,an,ar]
       refine tk 5 (.pointer (some ⟨g,0,none⟩)) hS1 (fun w' hS=>?_) ?_
       ·go_simp
       try simp only[Act.put,am,ai,aj,aa,an,ar]
       refine tk 6 (.slice (some ⟨g1,o1,none⟩) F.length c) hS1 (fun w' hS=>?_) ?_
       ·have c0:=tc w' hS _ _ y0;go_simp
       try simp only[Act.put,am,ai,aj,aa,an,ar]
       refine tk 7 (.pointer (some ⟨g,0,none⟩)) hS1 (fun w' hS=>?_) ?_
       ·go_simp
       try simp only[Act.put,am,ai,aj,aa,an,ar]
       refine tk 8 (.pointer (some ⟨g,0,none⟩)) hS1 (fun w' hS=>?_) ?_
       ·go_simp
       try simp only[Act.put,am,ai,aj,aa,an,ar]
       refine tk 9 (.pointer (some ⟨g,1,none⟩)) hS1 (fun w' hS=>?_) ?_
       ·go_simp
       try simp only[Act.put,am,ai,aj,aa,an,ar]
       refine tk 10 (.int .i64 (u.p:Int)) hS1 (fun w' hS=>?_) ?_
       ·have c0:=tc w' hS _ _ y1;go_simp
       try simp only[Act.put,am,ai,aj,aa,an,ar]
       refine tk 11 (.pointer (some ⟨g1,o1+u.p*4,none⟩)) hS1 (fun w' hS=>?_) ?_
       ·go_simp
       try simp only[Act.put,am,ai,aj,aa,an,ar]
       refine tk 12 (.pointer (some ⟨g1,o1+u.p*4+1,none⟩)) hS1 (fun w' hS=>?_) ?_
       ·go_simp
       try simp only[Act.put,am,ai,aj,aa,an,ar]
       refine tk 13 (.string ⟨x.tx.toArray⟩) hS1 (fun w' hS=>?_) ?_
       ·have c0:=tc w' hS _ _ z1;go_simp
       try simp only[Act.put,am,ai,aj,aa,an,ar]
       refine wpAnyH_all (rs:=[14]) (by decide +kernel) (by simp) (nX rfl (by rfl) (fun K2 hK2=>?_) (nY (S:=S0)));go_simp;go_at_call 184;refine(HN.out _).mono ?_;rintro e w9 ⟨rfl,hz⟩;have HB:=ac ((ay _ nw2).drew.trans hz);clear hz;have hS3:S0 w9:=by rw[hS0];exact HB.out
       refine hK2 _ _ hS3 ?_;clear hK2 K2;try simp only[Act.put,am,ai,aj,aa,an,ar]
       refine tk 15 (.bool false) hS3 (fun w' hS=>?_) ?_
       ·go_simp
       try simp only[Act.put,am,ai,aj,aa,an,ar]
       refine tk 16 (.bool false) hS3 (fun w' hS=>?_) ?_
       ·go_simp
       try simp only[Act.put,am,ai,aj,aa,an,ar]
       refine wpAnyH_done (by decide +kernel) ?_ _;have E0:=ac (SH.out.next HB.out);clear hS0 hS1 tc hS3;have MC1:=ac (fun W1 (h1:Mk g fv F (u) W1)=>lP hF h1 (hBu.mono (by omega)) (fO hw))
       rotate_left
       have h2:fV F u=T:=by
         rcases HS.out.w with ⟨h1,h2⟩|⟨h1,h2⟩
         ·exact h2
         ·cases h1
       have hsm:Sm F T (eD 6 u) false:=⟨.inl ⟨rfl,(IG hBu.p hb hw ha).symm.trans h2⟩⟩;have HS2:=ac hsm;clear hsm h2;have hy:=LF hw;have NC1:=ac (fun W1 (h1:Mk g fv F (u) W1)=>jU hF h1 (hBu.mono (by omega)) hb);have NC2:=ac (fun W1 (h1:Mk g fv F (u) W1)=>i9 hF h1 hBu.p hw)
       go_upto_region 5 with (first
         | (go_at_call 179;with_reducible refine(NC1.out _ U0.out.m).mono (Mz.k U0 fun nw1 N1=>?_))
         | (go_at_call 183;with_reducible refine(NC2.out _ N1.out.m).mono (Mz.k N1 fun nw2 N2=>?_))
         | fail)
       have SH:=ac N2.out;obtain⟨y0,y1,y3,y4,_⟩:=SH.out.m.cells;have hlt:=fO hw;obtain⟨x,hx⟩:∃x,F[u.p]? = some x:=⟨_,ax hlt⟩;have htx:tx F u.p=x.tx:=by unfold tx;rw[hx]
       have htl:=hF.t x (aI hx);obtain⟨A,c,hfv⟩:=SH.out.m.f.formm;have hf9:=SH.out.m.f;rw[hfv] at hf9;obtain⟨g1,o1,hA9,z0,z1,z2,z3⟩:=gZ hf9 hx rfl;rw[hfv,hA9] at y0;have u1:(u.p:Int)<(F.length:Int):=by omega
       have u2:(0:Int)≤(u.p:Int):=by omega
       have hn9:=fun W=>vy x.tx W (by omega)
       rw[←htx] at hn9;rw[ha] at hn9;rw[htx] at hn9;have HN:=ac hn9;clear hn9 htx hx htl z0 z2 z3 hf9 hA9 hfv y3 y4;obtain⟨S0,hS0⟩:∃S0:World→Prop,S0=fun w'=>Below nw2.heap.size nw2 w':=⟨_,rfl⟩
       refine wp_region_held (S:=S0) hmix ?_;show wpAnyH _ _ _ _ _ _ _ _ nw2.drew;have hS1:S0 nw2.drew:=by rw[hS0];exact(ay _ nw2).drew
       have tc:∀(w':World),S0 w'→∀(a:Addr) (v:Value),nw2.cell? a=some v→w'.cell? a=some v:=fun w' h a v hc=>jc (by rw[hS0] at h;exact h) hc
       refine tk 0 (.bool false) hS1 (fun w' hS=>?_) ?_
       ·go_simp
       try simp only[Act.put,am,ai,aj,aa,an,ar]
       refine tk 1 (.bool true) hS1 (fun w' hS=>?_) ?_
       ·go_simp
       try simp only[Act.put,am,ai,aj,aa,an,ar]
       refine tk 2 (.bool true) hS1 (fun w' hS=>?_) ?_
       ·go_simp
       try simp only[Act.put,am,ai,aj,aa,an,ar]
       refine tk 3 (.pointer (some ⟨g,0,none⟩)) hS1 (fun w' hS=>?_) ?_
       ·go_simp
       try simp only[Act.put,am,ai,aj,aa,an,ar]
       refine tk 4 (.pointer (some ⟨g,0,none⟩)) hS1 (fun w' hS=>?_) ?_
       ·go_simp
       try simp only[Act.put,am,ai,aj,aa,an,ar]
       refine tk 5 (.pointer (some ⟨g,0,none⟩)) hS1 (fun w' hS=>?_) ?_
       ·go_simp
       try simp only[Act.put,am,ai,aj,aa,an,ar]
       refine tk 6 (.slice (some ⟨g1,o1,none⟩) F.length c) hS1 (fun w' hS=>?_) ?_
       ·have c0:=tc w' hS _ _ y0;go_simp
       try simp only[Act.put,am,ai,aj,aa,an,ar]
       refine tk 7 (.pointer (some ⟨g,0,none⟩)) hS1 (fun w' hS=>?_) ?_
       ·go_simp
       try simp only[Act.put,am,ai,aj,aa,an,ar]
       refine tk 8 (.pointer (some ⟨g,0,none⟩)) hS1 (fun w' hS=>?_) ?_
       ·go_simp
       try simp only[Act.put,am,ai,aj,aa,an,ar]
       refine tk 9 (.pointer (some ⟨g,1,none⟩)) hS1 (fun w' hS=>?_) ?_
       ·go_simp
       try simp only[Act.put,am,ai,aj,aa,an,ar]
       refine tk 10 (.int .i64 (u.p:Int)) hS1 (fun w' hS=>?_) ?_
       ·have c0:=tc w' hS _ _ y1;go_simp
       try simp only[Act.put,am,ai,aj,aa,an,ar]
       refine tk 11 (.pointer (some ⟨g1,o1+u.p*4,none⟩)) hS1 (fun w' hS=>?_) ?_
       ·go_simp
       try simp only[Act.put,am,ai,aj,aa,an,ar]
       refine tk 12 (.pointer (some ⟨g1,o1+u.p*4+1,none⟩)) hS1 (fun w' hS=>?_) ?_
       ·go_simp
       try simp only[Act.put,am,ai,aj,aa,an,ar]
       refine tk 13 (.string ⟨x.tx.toArray⟩) hS1 (fun w' hS=>?_) ?_
       ·have c0:=tc w' hS _ _ z1;go_simp
       try simp only[Act.put,am,ai,aj,aa,an,ar]
       refine wpAnyH_all (rs:=[14]) (by decide +kernel) (by simp) (nX rfl (by rfl) (fun K2 hK2=>?_) (nY (S:=S0)));go_simp;go_at_call 184;refine(HN.out _).mono ?_;rintro e w9 ⟨rfl,hz⟩;have HB:=ac ((ay _ nw2).drew.trans hz);clear hz;have hS3:S0 w9:=by rw[hS0];exact HB.out
       refine hK2 _ _ hS3 ?_;clear hK2 K2;try simp only[Act.put,am,ai,aj,aa,an,ar]
       refine tk 15 (.bool true) hS3 (fun w' hS=>?_) ?_
       ·go_simp
       try simp only[Act.put,am,ai,aj,aa,an,ar]
       refine tk 16 (.bool true) hS3 (fun w' hS=>?_) ?_
       ·go_simp
       try simp only[Act.put,am,ai,aj,aa,an,ar]
       refine wpAnyH_done (by decide +kernel) ?_ _;have E0:=ac (SH.out.next HB.out);clear hS0 hS1 tc hS3;have MC1:=ac (fun W1 (h1:Mk g fv F (u) W1)=>JG hF h1 (hBu.mono (by omega)) (fO hw))
       rotate_left
       all_goals (
         go_wp2_with (
           (go_at_call 75;with_reducible refine(MC1.out _ E0.out.m).mono (Mz.k E0 fun mw1 M1=>?_)))
         refine⟨⟨_,_,rfl,hBu.gd hy.1,HS2.out,M1.out⟩,?_⟩;rw[M1.out.m.pOf,HP.out]
         have:=hy.2
         have:=hy.1.N
         omega)
      ·have h2:ir F u=T:=by
         rcases HS.out.w with ⟨h1,h2⟩|⟨h1,h2⟩
         ·cases h1
         ·exact h2
       have hsm:Sm F T (eD 7 u) true:=⟨.inr ⟨rfl,(IH hBu.p hb hw).symm.trans h2⟩⟩;have HS2:=ac hsm;clear hsm h2;have hy:=Ef hw;have NC1:=ac (fun W1 (h1:Mk g fv F (u) W1)=>jU hF h1 (hBu.mono (by omega)) hb);have NC2:=ac (fun W1 (h1:Mk g fv F (u) W1)=>i9 hF h1 hBu.p hw)
       go_upto_region 5 with (first
         | (go_at_call 179;with_reducible refine(NC1.out _ U0.out.m).mono (Mz.k U0 fun nw1 N1=>?_))
         | (go_at_call 183;with_reducible refine(NC2.out _ N1.out.m).mono (Mz.k N1 fun nw2 N2=>?_))
         | fail)
       have SH:=ac N2.out;obtain⟨y0,y1,y3,y4,_⟩:=SH.out.m.cells;clear y0 y1 y3 y4;obtain⟨S0,hS0⟩:∃S0:World→Prop,S0=fun w'=>Below nw2.heap.size nw2 w':=⟨_,rfl⟩
       refine wp_region_held (S:=S0) hmix ?_;show wpAnyH _ _ _ _ _ _ _ _ nw2.drew;have hS1:S0 nw2.drew:=by rw[hS0];exact(ay _ nw2).drew
       have tc:∀(w':World),S0 w'→∀(a:Addr) (v:Value),nw2.cell? a=some v→w'.cell? a=some v:=fun w' h a v hc=>jc (by rw[hS0] at h;exact h) hc
       refine tk 0 (.bool true) hS1 (fun w' hS=>?_) ?_
       ·go_simp
       try simp only[Act.put,am,ai,aj,aa,an,ar]
       refine tk 1 (.bool false) hS1 (fun w' hS=>?_) ?_
       ·go_simp
       try simp only[Act.put,am,ai,aj,aa,an,ar]
       refine tk 2 (.bool false) hS1 (fun w' hS=>?_) ?_
       ·go_simp
       try simp only[Act.put,am,ai,aj,aa,an,ar]
       refine sk 3 hS1 ?_;try simp only[Act.put,am,ai,aj,aa,an,ar]
       refine sk 4 hS1 ?_;try simp only[Act.put,am,ai,aj,aa,an,ar]
       refine sk 5 hS1 ?_;try simp only[Act.put,am,ai,aj,aa,an,ar]
       refine sk 6 hS1 ?_;try simp only[Act.put,am,ai,aj,aa,an,ar]
       refine sk 7 hS1 ?_;try simp only[Act.put,am,ai,aj,aa,an,ar]
       refine sk 8 hS1 ?_;try simp only[Act.put,am,ai,aj,aa,an,ar]
       refine sk 9 hS1 ?_;try simp only[Act.put,am,ai,aj,aa,an,ar]
       refine sk 10 hS1 ?_;try simp only[Act.put,am,ai,aj,aa,an,ar]
       refine sk 11 hS1 ?_;try simp only[Act.put,am,ai,aj,aa,an,ar]
       refine sk 12 hS1 ?_;try simp only[Act.put,am,ai,aj,aa,an,ar]
       refine sk 13 hS1 ?_;try simp only[Act.put,am,ai,aj,aa,an,ar]
       refine sk 14 hS1 ?_;try simp only[Act.put,am,ai,aj,aa,an,ar]
       refine tk 15 (.bool false) hS1 (fun w' hS=>?_) ?_
       ·go_simp
       try simp only[Act.put,am,ai,aj,aa,an,ar]
       refine tk 16 (.bool false) hS1 (fun w' hS=>?_) ?_
       ·go_simp
       try simp only[Act.put,am,ai,aj,aa,an,ar]
       refine wpAnyH_done (by decide +kernel) ?_ _;have E0:=ac (SH.out.next (ay _ _).drew);clear hS0 hS1 tc;have MC1:=ac (fun W1 (h1:Mk g fv F (u) W1)=>lP hF h1 (hBu.mono (by omega)) (fO hw));go_wp2_with (
         (go_at_call 75;with_reducible refine(MC1.out _ E0.out.m).mono (Mz.k E0 fun mw1 M1=>?_)))
       refine⟨⟨_,_,rfl,hBu.gd hy.1,HS2.out,M1.out⟩,?_⟩;rw[M1.out.m.pOf,HP.out]
       have:=hy.2
       have:=hy.1.N
       omega
    ·have hy:=mA hb;have hsm:Sm F T (fH F u) b:=by
       rcases HS.out.w with ⟨h1,h2⟩|⟨h1,h2⟩
       ·exact⟨.inl ⟨h1,(IE hBu.p hb).symm.trans h2⟩⟩
       ·exact⟨.inr ⟨h1,(II hBu.p hb).symm.trans h2⟩⟩
     have HS2:=ac hsm;clear hsm;have NC1:=ac (fun W1 (h1:Mk g fv F (u) W1)=>rZ hF h1 (hBu.mono (by omega)) hb);go_wp2_with (
       (go_at_call 179;with_reducible refine(NC1.out _ U0.out.m).mono (Mz.k U0 fun nw1 N1=>?_)))
     refine⟨⟨_,_,rfl,hBu.gd hy.1,HS2.out,N1.out⟩,?_⟩;rw[N1.out.m.pOf,HP.out]
     have:=hy.2
     have:=hy.1.N
     omega
theorem GD (hF:FB F) (hL:GL F L) (HL:ia g fv F L q) (h:Mk g fv F s W) (hq:q≤s.p+1) (hB:Bd F 28 s) :
    lw 147 g fv F W (.tuple #[]) (lm F L s):=by
  obtain⟨T,hT⟩:∃T,T=lm F L s:=⟨_,rfl⟩;rw[←hT];have HT:=ac hT;clear hT;have hg1:=gK (F:=F) hB.p;have hB1:=hB.gd hg1;have hg2:=fJ (F:=F) (cs:=[40]) (by decide) hB1.p;have hB2:=hB1.gd hg2;have hg3:=fp (F:=F) (c:=41) (by decide) hB2.p;have hB3:=hB2.gd hg3;have hg4:=ej (F:=F) hB3.p;have hB4:=hB3.gd hg4;have hq4:q≤(dW F (eE F 41 (eG F [40] (eK F s)))).p+1:=aA hq (bF (aA hg1.p (aA hg2.p (aA hg3.p hg4.p))));go_enter Tryz.func147,Tryz.ntmps147
  cases hb:gy F (dW F (eE F 41 (eG F [40] (eK F s))))
  ·have HC1:=ac (fun W1 (h1:Mk g fv F (s) W1)=>oE hF h1 (hB.mono (by omega)));have HC2:=ac (fun W1 (h1:Mk g fv F (eK F s) W1)=>lU hF h1 hB1.p [40] (by decide));have HC3:=ac (fun W1 (h1:Mk g fv F (eG F [40] (eK F s)) W1)=>iS hF h1 (hB2.mono (by omega)) 41 (by decide));have HC4:=ac (fun W1 (h1:Mk g fv F (eE F 41 (eG F [40] (eK F s))) W1)=>fT hF h1 hB3.p);have HC5:=ac (fun W1 (h1:Mk g fv F (dW F (eE F 41 (eG F [40] (eK F s)))) W1)=>kH hF h1 hB4.p hb);have HC6:=ac (fun W1 (h1:Mk g fv F (dW F (eE F 41 (eG F [40] (eK F s)))) W1)=>gz hF h1 (hB4.mono (by omega)));have H0:=ac (Mz.start h);clear h
   go_wp2_with (first
     | (go_at_call 181;with_reducible refine(HC1.out _ H0.out.m).mono (Mz.k H0 fun hw1 H1=>?_))
     | (go_at_call 73;with_reducible refine(HC2.out _ H1.out.m).mono (Mz.k H1 fun hw2 H2=>?_))
     | (go_at_call 182;with_reducible refine(HC3.out _ H2.out.m).mono (Mz.k H2 fun hw3 H3=>?_))
     | (go_at_call 92;with_reducible refine(HC4.out _ H3.out.m).mono (Mz.k H3 fun hw4 H4=>?_))
     | (go_at_call 84;with_reducible refine(HC5.out _ H4.out.m).mono (Mz.k H4 fun hw5 H5=>?_))
     | (go_at_call 120;with_reducible refine(HC6.out _ H5.out.m).mono (Mz.k H5 fun hw6 H6=>?_))
     | fail)
   first|go_end0|refine bn ?_
   refine⟨rfl,?_⟩;rw[HT.out];unfold lm;simp only;rw[aC (by rw[hb];decide)];exact H6.out
  ·have HC1:=ac (fun W1 (h1:Mk g fv F (s) W1)=>oE hF h1 (hB.mono (by omega)));have HC2:=ac (fun W1 (h1:Mk g fv F (eK F s) W1)=>lU hF h1 hB1.p [40] (by decide));have HC3:=ac (fun W1 (h1:Mk g fv F (eG F [40] (eK F s)) W1)=>iS hF h1 (hB2.mono (by omega)) 41 (by decide));have HC4:=ac (fun W1 (h1:Mk g fv F (eE F 41 (eG F [40] (eK F s))) W1)=>fT hF h1 hB3.p);have HC5:=ac (fun W1 (h1:Mk g fv F (dW F (eE F 41 (eG F [40] (eK F s)))) W1)=>qG hF h1 hB4.p hb);have HC6:=ac (fun W1 (h1:Mk g fv F (dW F (eE F 41 (eG F [40] (eK F s)))) W1)=>uf hF hL HL h1 hq4 (hB4.mono (by omega)) hb);have H0:=ac (Mz.start h);clear h
   go_wp2_with (first
     | (go_at_call 181;with_reducible refine(HC1.out _ H0.out.m).mono (Mz.k H0 fun hw1 H1=>?_))
     | (go_at_call 73;with_reducible refine(HC2.out _ H1.out.m).mono (Mz.k H1 fun hw2 H2=>?_))
     | (go_at_call 182;with_reducible refine(HC3.out _ H2.out.m).mono (Mz.k H2 fun hw3 H3=>?_))
     | (go_at_call 92;with_reducible refine(HC4.out _ H3.out.m).mono (Mz.k H3 fun hw4 H4=>?_))
     | (go_at_call 84;with_reducible refine(HC5.out _ H4.out.m).mono (Mz.k H4 fun hw5 H5=>?_))
     | (go_at_call 144;with_reducible refine(HC6.out _ H5.out.m).mono (Mz.k H5 fun hw6 H6=>?_))
     | fail)
   first|go_end0|refine bn ?_
   refine⟨rfl,?_⟩;rw[HT.out];unfold lm;simp only;rw[aB hb];exact H6.out
theorem Jt (hF:FB F) (hL:GL F L) (HL:ia g fv F L q) (h:Mk g fv F s W) (hq:q≤s.p+1) (hB:Bd F 26 s) (hf:lD F s=true) :
    Calls Tryz.prog 146 #[.pointer (some ⟨g,0,none⟩),.int .i64 16,.func (.func 147) #[.pointer (some ⟨g,0,none⟩)] #[]] W fun e w'=>e=.returned (.tuple #[])∧Mz g fv F W (jI 16 (lm F L) s) w':=by
  have hx:sg F s.p=120∧s.deep<200:=by unfold lD at hf;simp at hf;exact⟨hf.1,hf.2.2.1⟩
  have hi:Bd F 27 (fG 16 {s with deep:=s.deep+1}):=⟨hB.p,by have:=hB.l;show (s.l++[_]).length≤46*s.p+27;rw[aD];show s.l.length+1≤_;omega,by show s.deep+1≤200;omega⟩;have hg:=(wL hL (s:=fG 16 {s with deep:=s.deep+1}) hx.1).1;have hn:=hF.n;have h1:=hg.l;have h2:=hg.N;have h3:=hg.dp;have l1:(fG 16 {s with deep:=s.deep+1}).l.length=s.l.length+1:=by show (s.l++[_]).length=_;simp
  exact yn (s:=s) (t:=lm F L (fG 16 {s with deep:=s.deep+1})) 16 _ #[.pointer (some ⟨g,0,none⟩)] #[] h (hB.l5 hF (by omega)) (by omega) (by omega) (enters_of Tryz.func147 (by kernel_rfl) rfl)
    (fun W1 z1=>GD hF hL HL z1.m hq (hi.mono (by omega))) (by omega) (by omega) (h3.trans rfl)
theorem Js (hF:FB F) (h:Mk g fv F s W) (hB:Bd F 26 s) :
    Calls Tryz.prog 51 #[.pointer (some ⟨g,0,none⟩),.int .i64 5,.func (.func 148) #[.pointer (some ⟨g,0,none⟩)] #[]] W fun e w'=>e=.returned (.tuple #[])∧Mz g fv F W (eh 5 (fV F) s) w':=by
  have hi:=hB.inn 5;have hg:=wK (F:=F) hi.p;have hn:=hF.n;have h1:=hg.l;have h2:=hg.N;rw[oH] at h1;exact tD (t:=fV F (fG 5 s)) 5 _ h (hB.l5 hF (by omega)) (by omega) (enters_of Tryz.func148 (by kernel_rfl) rfl) (fun W1 z1=>Eg hF z1.m hi) (by omega) (by omega)
theorem vu (hF:FB F) (hL:GL F L) (HL:ia g fv F L q) (h:Mk g fv F s W) (hq:q≤s.p+1) (hB:Bd F 26 s) :
    lw 122 g fv F W (.tuple #[]) (iL F L s):=by
  obtain⟨T,hT⟩:∃T,T=iL F L s:=⟨_,rfl⟩;rw[←hT];have HT:=ac hT;clear hT;go_enter Tryz.func122,Tryz.ntmps122
  cases hb:gy F s
  ·cases hf:lD F s
   ·cases hc:lr F s
    ·have HC1:=ac (fun W1 (h1:Mk g fv F (s) W1)=>kH hF h1 hB.p hb);have HC2:=ac (fun W1 (h1:Mk g fv F (s) W1)=>sj hF h1 hB.p hf);have HC3:=ac (fun W1 (h1:Mk g fv F (s) W1)=>yZ hF h1 hB.p hc);have HC4:=ac (fun W1 (h1:Mk g fv F (s) W1)=>gz hF h1 (hB.mono (by omega)));have H0:=ac (Mz.start h);clear h
     go_wp2_with (first
       | (go_at_call 84;with_reducible refine(HC1.out _ H0.out.m).mono (Mz.k H0 fun hw1 H1=>?_))
       | (go_at_call 145;with_reducible refine(HC2.out _ H1.out.m).mono (Mz.k H1 fun hw2 H2=>?_))
       | (go_at_call 62;with_reducible refine(HC3.out _ H2.out.m).mono (Mz.k H2 fun hw3 H3=>?_))
       | (go_at_call 120;with_reducible refine(HC4.out _ H3.out.m).mono (Mz.k H3 fun hw4 H4=>?_))
       | fail)
     first|go_end0|refine bn ?_
     refine⟨rfl,?_⟩;rw[HT.out];unfold iL;rw[aC (by rw[hb];decide),aC (by rw[hf];decide),aC (by rw[hc];decide)];exact H4.out
    ·have HC1:=ac (fun W1 (h1:Mk g fv F (s) W1)=>kH hF h1 hB.p hb);have HC2:=ac (fun W1 (h1:Mk g fv F (s) W1)=>sj hF h1 hB.p hf);have HC3:=ac (fun W1 (h1:Mk g fv F (s) W1)=>yY hF h1 hB.p hc);have HC4:=ac (fun W1 (h1:Mk g fv F (s) W1)=>Js hF h1 hB);have H0:=ac (Mz.start h);clear h
     go_wp2_with (first
       | (go_at_call 84;with_reducible refine(HC1.out _ H0.out.m).mono (Mz.k H0 fun hw1 H1=>?_))
       | (go_at_call 145;with_reducible refine(HC2.out _ H1.out.m).mono (Mz.k H1 fun hw2 H2=>?_))
       | (go_at_call 62;with_reducible refine(HC3.out _ H2.out.m).mono (Mz.k H2 fun hw3 H3=>?_))
       | (go_at_call 51;with_reducible refine(HC4.out _ H3.out.m).mono (Mz.k H3 fun hw4 H4=>?_))
       | fail)
     first|go_end0|refine bn ?_
     refine⟨rfl,?_⟩;rw[HT.out];unfold iL;rw[aC (by rw[hb];decide),aC (by rw[hf];decide),aB hc];exact H4.out
   ·have HC1:=ac (fun W1 (h1:Mk g fv F (s) W1)=>kH hF h1 hB.p hb);have HC2:=ac (fun W1 (h1:Mk g fv F (s) W1)=>yJ hF h1 hB.p hf);have HC3:=ac (fun W1 (h1:Mk g fv F (s) W1)=>Jt hF hL HL h1 hq hB hf);have H0:=ac (Mz.start h);clear h
    go_wp2_with (first
      | (go_at_call 84;with_reducible refine(HC1.out _ H0.out.m).mono (Mz.k H0 fun hw1 H1=>?_))
      | (go_at_call 145;with_reducible refine(HC2.out _ H1.out.m).mono (Mz.k H1 fun hw2 H2=>?_))
      | (go_at_call 146;with_reducible refine(HC3.out _ H2.out.m).mono (Mz.k H2 fun hw3 H3=>?_))
      | fail)
    first|go_end0|refine bn ?_
    refine⟨rfl,?_⟩;rw[HT.out];unfold iL;rw[aC (by rw[hb];decide),aB hf];exact H3.out
  ·have HC1:=ac (fun W1 (h1:Mk g fv F (s) W1)=>qG hF h1 hB.p hb);have HC2:=ac (fun W1 (h1:Mk g fv F (s) W1)=>uf hF hL HL h1 hq (hB.mono (by omega)) hb);have H0:=ac (Mz.start h);clear h
   go_wp2_with (first
     | (go_at_call 84;with_reducible refine(HC1.out _ H0.out.m).mono (Mz.k H0 fun hw1 H1=>?_))
     | (go_at_call 144;with_reducible refine(HC2.out _ H1.out.m).mono (Mz.k H1 fun hw2 H2=>?_))
     | fail)
   first|go_end0|refine bn ?_
   refine⟨rfl,?_⟩;rw[HT.out];unfold iL;rw[aB hb];exact H2.out
theorem Jf (hF:FB F) (hL:GL F L) (HL:ia g fv F L q) (h:Mk g fv F s W) (hq:q≤s.p+1) (hB:Bd F 25 s) (hb0:Bk W bx 76 #[.pointer (some ⟨g,0,none⟩)]) :
    Calls Tryz.prog 121 #[.pointer (some ⟨bx,0,none⟩)] W fun e w'=>e=.returned (.tuple #[])∧Mz g fv F W (jo F L s) w':=by
  obtain⟨T,hT⟩:∃T,T=jo F L s:=⟨_,rfl⟩;rw[←hT];have HT:=ac hT;clear hT;have hg1:=fJ (F:=F) (cs:=[33]) (by decide) hB.p;have hB1:=hB.gd hg1;have hq1:q≤(eG F [33] s).p+1:=aA hq (bF hg1.p);have hg2:=nO hL hB1.p;have hB2:=hB1.gd hg2;have hq2:q≤(iL F L (eG F [33] s)).p+1:=aA hq1 (bF hg2.p);have HBX:=ac hb0;clear hb0;have b0:=HBX.out.cell 0;have HC1:=ac (fun W1 (h1:Mk g fv F (s) W1)=>lU hF h1 hB.p [33] (by decide));have HC2:=ac (fun W1 (h1:Mk g fv F (eG F [33] s) W1)=>vu hF hL HL h1 hq1 (hB1.mono (by omega)));have H0:=ac (Mz.start h);clear h;go_enter Tryz.func121,Tryz.ntmps121
  go_wp2_with (first
    | (go_at_call 73;with_reducible refine(HC1.out _ H0.out.m).mono ?_
       rintro e hw1 ⟨rfl,hz⟩;have H1:=ac (H0.out.then hz);have b0:=(Bk.kt HBX.out H1.out.f.kt (by decide)).cell 0;clear hz)
    | (go_at_call 122;with_reducible refine(HC2.out _ H1.out.m).mono ?_
       rintro e hw2 ⟨rfl,hz⟩;have H2:=ac (H1.out.then hz);have b0:=(Bk.kt HBX.out H2.out.f.kt (by decide)).cell 0;clear hz)
    | fail)
  go_loopw [] (fun wr=>∃u:Ps,q≤u.p+1∧Bd F 26 u∧(eV F.length (fun s=>if ef F [124] s=true then (iL F L (dW F (dY s)),true) else (s,false))) u=(eV F.length (fun s=>if ef F [124] s=true then (iL F L (dW F (dY s)),true) else (s,false))) (iL F L (eG F [33] s))∧Mz g fv F W u wr) (fun wr=>F.length-pOf g wr)
  case atStart=>exact⟨_,hq2,hB2,rfl,H2.out⟩
  case round=>
    obtain⟨u,hqu,hBu,hlu,hz⟩:=hrel;have U0:=ac hz;have HU:=ac hlu;have hup:=hz.m.pOf;have HP:=ac hup;clear hz hlu hup
    cases hb:ef F [124] u
    ·have HE:=ac (HU.out.symm.trans (LC.stepn (jl hL) hBu.p (t:=u) (by show (if _ then _ else _)=_;rw[aC (by rw[hb];decide)])));have NC1:=ac (fun W1 (h1:Mk g fv F (u) W1)=>fE hF h1 hBu.p [124] (by decide) hb);have b0:=(Bk.kt HBX.out U0.out.f.kt (by decide)).cell 0;go_wp2_with (
       (go_at_call 73;with_reducible refine(NC1.out _ U0.out.m).mono ?_
        rintro e nw1 ⟨rfl,hz⟩;have N1:=ac (U0.out.then hz);have b0:=(Bk.kt HBX.out N1.out.f.kt (by decide)).cell 0;clear hz))
     first|go_end0|refine bn ?_
     refine⟨rfl,?_⟩;rw[HT.out];unfold jo;rw[HE.out];exact N1.out
    ·have hy:=LC.y ((jl hL) u hBu.p) (t:=iL F L (dW F (dY u))) (by show (if _ then _ else _)=_;rw[aB hb]);have HE:=ac ((LC.stepy (jl hL) hBu.p (t:=iL F L (dW F (dY u))) (by show (if _ then _ else _)=_;rw[aB hb])).symm.trans HU.out);have hlt:=er hb (by decide);have hn1:=hBu.next hlt (by omega);have hg4:=ej (F:=F) hn1.p;have hB4:=hn1.gd hg4;have hq4:q≤(dW F (dY u)).p+1:=aA hqu (bF (aA (bW _) hg4.p));have YC1:=ac (fun W1 (h1:Mk g fv F (u) W1)=>gD hF h1 hBu.p [124] (by decide) hb);have YC2:=ac (fun W1 (h1:Mk g fv F (dY u) W1)=>fT hF h1 hn1.p);have YC3:=ac (fun W1 (h1:Mk g fv F (dW F (dY u)) W1)=>vu hF hL HL h1 hq4 (hB4.mono (by omega)));have b0:=(Bk.kt HBX.out U0.out.f.kt (by decide)).cell 0
     go_wp2_with (first
       | (go_at_call 73;with_reducible refine(YC1.out _ U0.out.m).mono ?_
          rintro e yw1 ⟨rfl,hz⟩;have Y1:=ac (U0.out.then hz);have b0:=(Bk.kt HBX.out Y1.out.f.kt (by decide)).cell 0;clear hz)
       | (go_at_call 92;with_reducible refine(YC2.out _ Y1.out.m).mono ?_
          rintro e yw2 ⟨rfl,hz⟩;have Y2:=ac (Y1.out.then hz);have b0:=(Bk.kt HBX.out Y2.out.f.kt (by decide)).cell 0;clear hz)
       | (go_at_call 122;with_reducible refine(YC3.out _ Y2.out.m).mono ?_
          rintro e yw3 ⟨rfl,hz⟩;have Y3:=ac (Y2.out.then hz);have b0:=(Bk.kt HBX.out Y3.out.f.kt (by decide)).cell 0;clear hz)
       | fail)
     refine⟨⟨_,aA hqu (bF (aM hy.2)),hBu.gd hy.1,HE.out,Y3.out⟩,?_⟩;rw[Y3.out.m.pOf,HP.out]
     have:=hy.2
     have:=hy.1.N
     omega
theorem E5 (hF:FB F) (hL:GL F L) (HL:ia g fv F L q) (h:Mk g fv F s W) (hq:q≤s.p+1) (hB:Bd F 24 s) :
    lw 100 g fv F W (.tuple #[]) (jA F L s):=by
  have hx:∀W0,Mk g fv F s W0→∀bx,Bk W0 bx 76 #[.pointer (some ⟨g,0,none⟩)]→Calls Tryz.prog 51 #[.pointer (some ⟨g,0,none⟩),.int .i64 4,.func (.func 121) #[] #[.pointer (some ⟨bx,0,none⟩)]] W0 fun e w'=>e=.returned (.tuple #[])∧Mz g fv F W0 (eh 4 (jo F L) s) w':=fun W0 h0 bx hbx=>by
    have hi:=hB.inn 4;have hg:=tQ hL hi.p;have hn:=hF.n;have h1:=hg.l;have h2:=hg.N;rw[oH] at h1;exact rC (t:=jo F L (fG 4 s)) 4 _ #[] #[.pointer (some ⟨bx,0,none⟩)] h0 (hB.l5 hF (by omega)) (by omega) (enters_of Tryz.func121 (by kernel_rfl) rfl) (fun W1 h1=>Jf hF hL HL h1.m hq hi (h1.box hbx (by decide))) (by omega) (by omega)
  have HX:=ac hx;have H0:=ac (Mz.start h);clear hx;obtain⟨T,hT⟩:∃T,T=jA F L s:=⟨_,rfl⟩;rw[←hT];have HT:=ac hT;clear hT
  cases hb:eN F s
  ·have HC1:=ac (fun W1 (h1:Mk g fv F s W1)=>mh hF h1 hB.p hb);have HC2:=ac (fun W1 (h1:Mk g fv F s W1)=>gz hF h1 (hB.mono (by omega)));clear h;go_enter Tryz.func100,Tryz.ntmps100;go_upto_region 1 with fail
   refine li fun W0 hb0 k0 hs0=>?_
   have HBX:=ac k0;have b0:=HBX.out.cell 0;have H1:=ac (H0.out.next hb0);have HZ:=ac (Mz.start H1.out.m);clear hb0 k0 hs0
   go_wp2_with (first
     | (go_at_call 39;with_reducible refine(HC1.out _ HZ.out.m).mono ?_
        rintro e w1 ⟨rfl,hz⟩;have H2:=ac (HZ.out.then hz);have b0:=(Bk.kt HBX.out H2.out.f.kt (by decide)).cell 0;clear hz)
     | (go_at_call 120;with_reducible refine(HC2.out _ H2.out.m).mono (Mz.k H2 fun w2 H3=>?_))
     | fail)
   first|go_end0|refine bn ?_
   refine⟨rfl,?_⟩;rw[HT.out];unfold jA;rw[aC (by rw[hb];decide)];exact H1.out.then H3.out
  ·have HC1:=ac (fun W1 (h1:Mk g fv F s W1)=>mg hF h1 hB.p hb);have HC2:=ac (fun W1 (h1:Mk g fv F s W1)=>gz hF h1 (hB.mono (by omega)));clear h;go_enter Tryz.func100,Tryz.ntmps100;go_upto_region 1 with fail
   refine li fun W0 hb0 k0 hs0=>?_
   have HBX:=ac k0;have b0:=HBX.out.cell 0;have H1:=ac (H0.out.next hb0);have HZ:=ac (Mz.start H1.out.m);clear hb0 k0 hs0
   go_wp2_with (first
     | (go_at_call 39;with_reducible refine(HC1.out _ HZ.out.m).mono ?_
        rintro e w1 ⟨rfl,hz⟩;have H2:=ac (HZ.out.then hz);have b0:=(Bk.kt HBX.out H2.out.f.kt (by decide)).cell 0;clear hz)
     | (go_at_call 51;refine(HX.out _ H2.out.m _ (Bk.kt HBX.out H2.out.f.kt (by decide))).mono ?_;rintro e w2 ⟨rfl,hz⟩;have H3:=ac (H2.out.then hz);clear hz)
     | fail)
   first|go_end0|refine bn ?_
   refine⟨rfl,?_⟩;rw[HT.out];unfold jA;rw[aB hb];exact H1.out.then H3.out
theorem Kt (hF:FB F) (hL:GL F L) (HL:ia g fv F L q) (h:Mk g fv F s W) (hq:q≤s.p+1) (hB:Bd F 24 s) :
    lw 86 g fv F W (.tuple #[]) (eW F L s):=by
  obtain⟨T,hT⟩:∃T,T=eW F L s:=⟨_,rfl⟩;rw[←hT];have HT:=ac hT;clear hT;have hg2:=nN hL hB.p;have hB2:=hB.gd hg2;have hq2:q≤(jA F L s).p+1:=aA hq (bF hg2.p);have HC1:=ac (fun W1 (h1:Mk g fv F (s) W1)=>E5 hF hL HL h1 hq hB);have H0:=ac (Mz.start h);clear h;go_enter Tryz.func86,Tryz.ntmps86;go_wp2_with (
    (go_at_call 100;with_reducible refine(HC1.out _ H0.out.m).mono (Mz.k H0 fun hw1 H1=>?_)))
  go_loopw [] (fun wr=>∃u:Ps,q≤u.p+1∧Bd F 26 u∧(eV F.length (fun s=>if ef F [97,111] s=true then (jA F L (dW F (dY s)),true) else (s,false))) u=(eV F.length (fun s=>if ef F [97,111] s=true then (jA F L (dW F (dY s)),true) else (s,false))) (jA F L s)∧Mz g fv F W u wr) (fun wr=>F.length-pOf g wr)
  case atStart=>exact⟨_,hq2,hB2,rfl,H1.out⟩
  case round=>
    obtain⟨u,hqu,hBu,hlu,hz⟩:=hrel;have U0:=ac hz;have HU:=ac hlu;have hup:=hz.m.pOf;have HP:=ac hup;clear hz hlu hup
    cases hb:ef F [97,111] u
    ·have HE:=ac (HU.out.symm.trans (LC.stepn (ng hL) hBu.p (t:=u) (by show (if _ then _ else _)=_;rw[aC (by rw[hb];decide)])));have NC1:=ac (fun W1 (h1:Mk g fv F (u) W1)=>fE hF h1 hBu.p [97,111] (by decide) hb);go_wp2_with (
       (go_at_call 73;with_reducible refine(NC1.out _ U0.out.m).mono (Mz.k U0 fun nw1 N1=>?_)))
     first|go_end0|refine bn ?_
     refine⟨rfl,?_⟩;rw[HT.out];unfold eW;rw[HE.out];exact N1.out
    ·have hy:=LC.y ((ng hL) u hBu.p) (t:=jA F L (dW F (dY u))) (by show (if _ then _ else _)=_;rw[aB hb]);have HE:=ac ((LC.stepy (ng hL) hBu.p (t:=jA F L (dW F (dY u))) (by show (if _ then _ else _)=_;rw[aB hb])).symm.trans HU.out);have hlt:=er hb (by decide);have hn1:=hBu.next hlt (by omega);have hg4:=ej (F:=F) hn1.p;have hB4:=hn1.gd hg4;have hq4:q≤(dW F (dY u)).p+1:=aA hqu (bF (aA (bW _) hg4.p));have YC1:=ac (fun W1 (h1:Mk g fv F (u) W1)=>gD hF h1 hBu.p [97,111] (by decide) hb);have YC2:=ac (fun W1 (h1:Mk g fv F (dY u) W1)=>fT hF h1 hn1.p);have YC3:=ac (fun W1 (h1:Mk g fv F (dW F (dY u)) W1)=>E5 hF hL HL h1 hq4 (hB4.mono (by omega)))
     go_wp2_with (first
       | (go_at_call 73;with_reducible refine(YC1.out _ U0.out.m).mono (Mz.k U0 fun yw1 Y1=>?_))
       | (go_at_call 92;with_reducible refine(YC2.out _ Y1.out.m).mono (Mz.k Y1 fun yw2 Y2=>?_))
       | (go_at_call 100;with_reducible refine(YC3.out _ Y2.out.m).mono (Mz.k Y2 fun yw3 Y3=>?_))
       | fail)
     refine⟨⟨_,aA hqu (bF (aM hy.2)),hBu.gd hy.1,HE.out,Y3.out⟩,?_⟩;rw[Y3.out.m.pOf,HP.out]
     have:=hy.2
     have:=hy.1.N
     omega
end Go.Proofs.YtmclohkaiemnaaaGreatDoor
