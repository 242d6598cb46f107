/- The parser: compounds. -/
import Derived.Test.YtcagfamdoaoimaaGreatDoorPw13
import Derived.Laws.EntriesVeiled
set_option linter.unusedVariables false
set_option linter.unusedSimpArgs false
set_option maxRecDepth 100000
set_option maxHeartbeats 8000000
namespace Go.Proofs.YtcagfamdoaoimaaGreatDoor
open Go.RowKit
variable {cs ds:Array Value} {F:List Lf} {a b g q bx by_ fX k:Nat} {u s:Ps} {L X:Ps→Ps} {t ty:TypeId} {fv v:Value} {w W W1:World}
theorem L3 {u:TypeId} (h:Bk w a t cs) (k:Bk w b u ds) (hne:t≠u):a≠b:=by
  rintro rfl;unfold Bk at h k;rw[h] at k;injection k with k
  injection k with _ k
  exact hne k
theorem Mz.setNew (h:Mz g fv F W s W1) (hk:Bk W1 b ty cs) (hb:W.heap.size≤b) (hg:g≤b) (ht:ty∉[88,56]) (hl:29≠ty) :
    Mz g fv F W s (W1.setCell ⟨b,0,none⟩ v):=by
  obtain⟨lv,h1,h2⟩:=h.m.w;have e1:88≠ty:=fun e=>ht (by rw[←e];simp)
  have e2:56≠ty:=fun e=>ht (by rw[←e];simp)
  have hne:g≠b:=L3 h1 hk e1;refine⟨⟨⟨lv,h1.far (p:=⟨b,0,none⟩) hne v,eU h2 (eK h2 hk e2) v⟩,h.m.f.keep ((aD g W1).setCell (p:=⟨b,0,none⟩) hg v) (an _)⟩,⟨h.f.hb.setCell (p:=⟨b,0,none⟩) hg v,fun k o hk1 ho=>?_⟩⟩;have h3:=(aN.1 hk1).1
  exact(bu _ _ _ k (by show k≠b;omega)).trans (h.f.kt k o hk1 ho)
theorem GX (hF:FB F) (hL:GL F L) (HL:gL g fv F L q) (h:Mk g fv F s W) (hq:q≤s.p) (hB:Bd F 0 s) :
    Calls Tryz.prog 254 #[.pointer (some ⟨g,0,none⟩)] W fun e w'=>e=.returned (.tuple #[])∧Mz g fv F W (gu F L s) w':=by
  cases hw:i4 F s.p
  ·exact JW hF hL HL h hq hB hw
  ·cases hn:je (tx F s.p)
   ·exact JV hF hL HL h hq hB hw hn
   ·exact JU hF hL HL h hq hB hw hn
theorem li (hF:FB F) (h:Mk g fv F s W) (hs:s.p<F.length) (hB:Bd F 30 s) (hd:s.deep<200) (hk:k≤18) (hb:Bk W bx 86 #[.pointer (some ⟨g,0,none⟩)]) (hm:Bk W by_ 1 #[.func (.func fX) #[.pointer (some ⟨g,0,none⟩)] #[]]) (eg:∀args w,(callFunc fX args).run Tryz.prog w=.ok (.enter fX args) w) (hg:∀t:Ps,t.p≤F.length→Gd F.length 14 t (X t)) (hX:∀(t:Ps) W1,t.p=s.p+1→Bd F 0 t→Mk g fv F t W1→Calls Tryz.prog fX #[.pointer (some ⟨g,0,none⟩)] W1 fun e w'=>e=.returned (.tuple #[])∧Mz g fv F W1 (X t) w') :
    Calls Tryz.prog 240 #[.pointer (some ⟨g,0,none⟩),.int .i64 (k:Int),.func (.func 256) #[] #[.pointer (some ⟨bx,0,none⟩),.pointer (some ⟨by_,0,none⟩)]] W fun e w'=>e=.returned (.tuple #[])∧Mz g fv F W (kw k (fun t=>gy F (X (dL t))) s) w':=by
  have hi:Bd F 31 (fB k {s with deep:=s.deep+1}):=⟨hB.p,by have:=hB.l;show (s.l++[_]).length≤46*s.p+31;rw[aH];show s.l.length+1≤_;omega,by show s.deep+1≤200;omega⟩;have hn:=hi.next hs (by omega);have g1:=hg _ hn.p;have hB1:=hn.gd g1;have g2:=rL (F:=F) hB1.p;have hN:=hF.n;have l1:(dL (fB k {s with deep:=s.deep+1})).l.length=s.l.length+1:=by show (s.l++[_]).length=_;simp
  have h1:=g1.l;have h2:=g2.l;have h3:=g2.N;have h4:=g2.dp;have h5:=g1.dp
  exact yG (s:=s) (t:=gy F (X (dL (fB k {s with deep:=s.deep+1})))) k _ #[] #[.pointer (some ⟨bx,0,none⟩),.pointer (some ⟨by_,0,none⟩)] h (hB.l5 hF (by omega)) hk (by omega)
    (enters_of Tryz.func256 (by kernel_rfl) rfl)
    (fun W1 z1=>zq (s:=fB k {s with deep:=s.deep+1}) hF z1.m hs (hB1.mono (by omega)) (z1.box hb (by decide)) (z1.box hm (by decide)) eg (fun W2 z2=>hX _ _ rfl hn z2)) (by omega) (by omega) (h4.trans (h5.trans rfl))
theorem J1 (hF:FB F) (hL:GL F L) (HL:gL g fv F L q) (h:Mk g fv F s W) (hq:q≤s.p+1) (hB:Bd F 30 s) (hb:gx F s=true) (hc:sg F s.p=123) :
    Calls Tryz.prog 238 #[.pointer (some ⟨g,0,none⟩)] W fun e w'=>e=.returned (.tuple #[])∧Mz g fv F W (gW F L s) w':=by
  have hs:=kU hb;have hd:s.deep<200:=by
    unfold gx at hb;rw[aX] at hb;exact db hb.1
  have hT:gW F L s=kw 9 (fun t=>gy F ((fun t=>eE F 125 (eN F L t)) (dL t))) s:=by
    unfold gW;rw[hc];rfl
  rw[hT];clear hT;have hgX:∀t:Ps,t.p≤F.length→Gd F.length 14 t (eE F 125 (eN F L t)):=fun t ht=>ni hL 123 ht
  have hmix:Tryz.prog.follows .mixedOrders=true:=by kernel_rfl
  have HN:=aa (fun W1 (h1:Mk g fv F s W1) bx by_ hbx hby=>li (bx:=bx) (by_:=by_) (fX:=250) (X:=fun t=>eE F 125 (eN F L t)) (k:=9) hF h1 hs hB hd (by omega) hbx hby (enters_of Tryz.func250 (by kernel_rfl) rfl) hgX (fun t W2 ht hBt h2=>J9 hF hL HL h2 (by omega) hBt));have HC1:=aa (fun W1 (h1:Mk g fv F s W1)=>kI hF h1 hB.p 123 hc.symm);have hgl:=h.lt;have H0:=aa (Mz.start h);clear h hc hb hd hgX;go_enter Tryz.func238,Tryz.ntmps238;go_upto_region 1 with fail
  refine jX fun W0 hb0 k0 hs0=>?_
  have HBX:=aa k0;have b0:=HBX.out.cell 0;have hbl:=HBX.out.lt;have hW0:W.heap.size≤W0.heap.size:=by omega
  have hgW:g≤W0.heap.size:=by omega
  have H1:=aa (H0.out.next hb0);clear hb0 k0 hs0;go_region
  skip
  have hB3:Below W0.heap.size W0 ((W0.alloc (.cells #[(.func (.func 250) #[.pointer (some ⟨g,0,none⟩)] #[])] 1)).drew):=((aD _ W0).alloc (an _) _).drew;have ky:Bk ((W0.alloc (.cells #[(.func (.func 250) #[.pointer (some ⟨g,0,none⟩)] #[])] 1)).drew) W0.heap.size 1 #[(.func (.func 250) #[.pointer (some ⟨g,0,none⟩)] #[])]:=Bk.new W0 _ _;generalize ((W0.alloc (.cells #[(.func (.func 250) #[.pointer (some ⟨g,0,none⟩)] #[])] 1)).drew)=W3 at ky hB3 ⊢;have HK:=aa ky;have H3:=aa (H1.out.next hB3);have HX3:=aa (HBX.out.below hB3 hbl);clear ky hB3;clear b0;have b0:=HX3.out.cell 0;go_upto_region 3 with (
    (go_at_call 135;with_reducible refine(HC1.out _ H3.out.m).mono ?_
     rintro e w4 ⟨rfl,hz⟩;have H4:=aa (H3.out.then hz);have HK4:=aa (Bk.kt HK.out hz.f.kt (by decide));have HX4:=aa (Bk.kt HX3.out hz.f.kt (by decide));clear hz))
  have b0:=HX4.out.cell 0;have H5:=aa H4.out;have HK5:=aa HK4.out;have HX5:=aa HX4.out;go_wp2_with (
    (go_at_call 240;refine(HN.out _ H5.out.m _ _ HX5.out HK5.out).mono ?_;rintro e w6 ⟨rfl,hz⟩;have H6:=aa (H5.out.then hz);clear hz))
  first|go_end0|refine az (aI rfl _ _ _) rfl ?_
  exact⟨rfl,H6.out⟩
theorem Hc (hF:FB F) (hL:GL F L) (HL:gL g fv F L q) (h:Mk g fv F s W) (hq:q≤s.p+1) (hB:Bd F 30 s) (hb:gx F s=true) (hc:sg F s.p=40) :
    Calls Tryz.prog 238 #[.pointer (some ⟨g,0,none⟩)] W fun e w'=>e=.returned (.tuple #[])∧Mz g fv F W (gW F L s) w':=by
  have hs:=kU hb;have hd:s.deep<200:=by
    unfold gx at hb;rw[aX] at hb;exact db hb.1
  have hT:gW F L s=kw 10 (fun t=>gy F ((fun t=>eE F 41 (eN F L t)) (dL t))) s:=by
    unfold gW;rw[hc];rfl
  rw[hT];clear hT;have hgX:∀t:Ps,t.p≤F.length→Gd F.length 14 t (eE F 41 (eN F L t)):=fun t ht=>ni hL 40 ht
  have hmix:Tryz.prog.follows .mixedOrders=true:=by kernel_rfl
  have HN:=aa (fun W1 (h1:Mk g fv F s W1) bx by_ hbx hby=>li (bx:=bx) (by_:=by_) (fX:=251) (X:=fun t=>eE F 41 (eN F L t)) (k:=10) hF h1 hs hB hd (by omega) hbx hby (enters_of Tryz.func251 (by kernel_rfl) rfl) hgX (fun t W2 ht hBt h2=>zY hF hL HL h2 (by omega) hBt));have HC1:=aa (fun W1 (h1:Mk g fv F s W1)=>kI hF h1 hB.p 40 hc.symm);have hgl:=h.lt;have H0:=aa (Mz.start h);clear h hc hb hd hgX;go_enter Tryz.func238,Tryz.ntmps238;go_upto_region 1 with fail
  refine jX fun W0 hb0 k0 hs0=>?_
  have HBX:=aa k0;have b0:=HBX.out.cell 0;have hbl:=HBX.out.lt;have hW0:W.heap.size≤W0.heap.size:=by omega
  have hgW:g≤W0.heap.size:=by omega
  have H1:=aa (H0.out.next hb0);clear hb0 k0 hs0;go_region
  skip
  have hB3:Below W0.heap.size W0 ((W0.alloc (.cells #[(.func (.func 250) #[.pointer (some ⟨g,0,none⟩)] #[])] 1)).drew):=((aD _ W0).alloc (an _) _).drew;have ky:Bk ((W0.alloc (.cells #[(.func (.func 250) #[.pointer (some ⟨g,0,none⟩)] #[])] 1)).drew) W0.heap.size 1 #[(.func (.func 250) #[.pointer (some ⟨g,0,none⟩)] #[])]:=Bk.new W0 _ _;generalize ((W0.alloc (.cells #[(.func (.func 250) #[.pointer (some ⟨g,0,none⟩)] #[])] 1)).drew)=W3 at ky hB3 ⊢;have HK:=aa ky;have H3:=aa (H1.out.next hB3);have HX3:=aa (HBX.out.below hB3 hbl);clear ky hB3;clear b0;have b0:=HX3.out.cell 0;go_upto_region 4 with (
    (go_at_call 135;with_reducible refine(HC1.out _ H3.out.m).mono ?_
     rintro e w4 ⟨rfl,hz⟩;have H4:=aa (H3.out.then hz);have HK4:=aa (Bk.kt HK.out hz.f.kt (by decide));have HX4:=aa (Bk.kt HX3.out hz.f.kt (by decide));clear hz))
  have b0:=HX4.out.cell 0;have m0:=HK4.out.cell 0;simp only[aP,aM] at m0;have m1:=HK4.out.frozen 0;go_region;all_goals (
    have hne:W.heap.size≠W0.heap.size:=by omega
    have H5:=aa ((Mz.setNew (v:=(.func (.func 251) #[.pointer (some ⟨g,0,none⟩)] #[])) H4.out HK4.out hW0 hgW (by decide) (by decide)).next (aD _ _).drew);have k5:Bk _ W0.heap.size 1 #[(.func (.func 251) #[.pointer (some ⟨g,0,none⟩)] #[])]:=(HK4.out.set 0 _).drew;have HK5:=aa k5;have HX5:=aa (HX4.out.far (p:=⟨W0.heap.size,0,none⟩) hne (.func (.func 251) #[.pointer (some ⟨g,0,none⟩)] #[])).drew;clear k5;go_wp2_with (
      (go_at_call 240;refine(HN.out _ H5.out.m _ _ HX5.out HK5.out).mono ?_;rintro e w6 ⟨rfl,hz⟩;have H6:=aa (H5.out.then hz);clear hz))
    first|go_end0|refine az (aI rfl _ _ _) rfl ?_
    exact⟨rfl,H6.out⟩)
theorem Hb (hF:FB F) (hL:GL F L) (HL:gL g fv F L q) (h:Mk g fv F s W) (hq:q≤s.p+1) (hB:Bd F 30 s) (hb:gx F s=true) (hc:sg F s.p=105) :
    Calls Tryz.prog 238 #[.pointer (some ⟨g,0,none⟩)] W fun e w'=>e=.returned (.tuple #[])∧Mz g fv F W (gW F L s) w':=by
  have hs:=kU hb;have hd:s.deep<200:=by
    unfold gx at hb;rw[aX] at hb;exact db hb.1
  have hT:gW F L s=kw 11 (fun t=>gy F ((fun t=>mN F L t) (dL t))) s:=by
    unfold gW;rw[hc];rfl
  rw[hT];clear hT;have hgX:∀t:Ps,t.p≤F.length→Gd F.length 14 t (mN F L t):=fun t ht=>ni hL 105 ht
  have hmix:Tryz.prog.follows .mixedOrders=true:=by kernel_rfl
  have HN:=aa (fun W1 (h1:Mk g fv F s W1) bx by_ hbx hby=>li (bx:=bx) (by_:=by_) (fX:=252) (X:=fun t=>mN F L t) (k:=11) hF h1 hs hB hd (by omega) hbx hby (enters_of Tryz.func252 (by kernel_rfl) rfl) hgX (fun t W2 ht hBt h2=>Bz hF hL HL h2 (by omega) hBt));have HC1:=aa (fun W1 (h1:Mk g fv F s W1)=>kI hF h1 hB.p 105 hc.symm);have hgl:=h.lt;have H0:=aa (Mz.start h);clear h hc hb hd hgX;go_enter Tryz.func238,Tryz.ntmps238;go_upto_region 1 with fail
  refine jX fun W0 hb0 k0 hs0=>?_
  have HBX:=aa k0;have b0:=HBX.out.cell 0;have hbl:=HBX.out.lt;have hW0:W.heap.size≤W0.heap.size:=by omega
  have hgW:g≤W0.heap.size:=by omega
  have H1:=aa (H0.out.next hb0);clear hb0 k0 hs0;go_region
  skip
  have hB3:Below W0.heap.size W0 ((W0.alloc (.cells #[(.func (.func 250) #[.pointer (some ⟨g,0,none⟩)] #[])] 1)).drew):=((aD _ W0).alloc (an _) _).drew;have ky:Bk ((W0.alloc (.cells #[(.func (.func 250) #[.pointer (some ⟨g,0,none⟩)] #[])] 1)).drew) W0.heap.size 1 #[(.func (.func 250) #[.pointer (some ⟨g,0,none⟩)] #[])]:=Bk.new W0 _ _;generalize ((W0.alloc (.cells #[(.func (.func 250) #[.pointer (some ⟨g,0,none⟩)] #[])] 1)).drew)=W3 at ky hB3 ⊢;have HK:=aa ky;have H3:=aa (H1.out.next hB3);have HX3:=aa (HBX.out.below hB3 hbl);clear ky hB3;clear b0;have b0:=HX3.out.cell 0;go_upto_region 6 with (
    (go_at_call 135;with_reducible refine(HC1.out _ H3.out.m).mono ?_
     rintro e w4 ⟨rfl,hz⟩;have H4:=aa (H3.out.then hz);have HK4:=aa (Bk.kt HK.out hz.f.kt (by decide));have HX4:=aa (Bk.kt HX3.out hz.f.kt (by decide));clear hz))
  have b0:=HX4.out.cell 0;have m0:=HK4.out.cell 0;simp only[aP,aM] at m0;have m1:=HK4.out.frozen 0;go_region;all_goals (
    have hne:W.heap.size≠W0.heap.size:=by omega
    have H5:=aa ((Mz.setNew (v:=(.func (.func 252) #[.pointer (some ⟨g,0,none⟩)] #[])) H4.out HK4.out hW0 hgW (by decide) (by decide)).next (aD _ _).drew);have k5:Bk _ W0.heap.size 1 #[(.func (.func 252) #[.pointer (some ⟨g,0,none⟩)] #[])]:=(HK4.out.set 0 _).drew;have HK5:=aa k5;have HX5:=aa (HX4.out.far (p:=⟨W0.heap.size,0,none⟩) hne (.func (.func 252) #[.pointer (some ⟨g,0,none⟩)] #[])).drew;clear k5;go_wp2_with (
      (go_at_call 240;refine(HN.out _ H5.out.m _ _ HX5.out HK5.out).mono ?_;rintro e w6 ⟨rfl,hz⟩;have H6:=aa (H5.out.then hz);clear hz))
    first|go_end0|refine az (aI rfl _ _ _) rfl ?_
    exact⟨rfl,H6.out⟩)
theorem Ha (hF:FB F) (hL:GL F L) (HL:gL g fv F L q) (h:Mk g fv F s W) (hq:q≤s.p+1) (hB:Bd F 30 s) (hb:gx F s=true) (hc:sg F s.p=119) :
    Calls Tryz.prog 238 #[.pointer (some ⟨g,0,none⟩)] W fun e w'=>e=.returned (.tuple #[])∧Mz g fv F W (gW F L s) w':=by
  have hs:=kU hb;have hd:s.deep<200:=by
    unfold gx at hb;rw[aX] at hb;exact db hb.1
  have hT:gW F L s=kw 12 (fun t=>gy F ((fun t=>xu F L (eN F L t)) (dL t))) s:=by
    unfold gW;rw[hc];rfl
  rw[hT];clear hT;have hgX:∀t:Ps,t.p≤F.length→Gd F.length 14 t (xu F L (eN F L t)):=fun t ht=>ni hL 119 ht
  have hmix:Tryz.prog.follows .mixedOrders=true:=by kernel_rfl
  have HN:=aa (fun W1 (h1:Mk g fv F s W1) bx by_ hbx hby=>li (bx:=bx) (by_:=by_) (fX:=253) (X:=fun t=>xu F L (eN F L t)) (k:=12) hF h1 hs hB hd (by omega) hbx hby (enters_of Tryz.func253 (by kernel_rfl) rfl) hgX (fun t W2 ht hBt h2=>Lz hF hL HL h2 (by omega) hBt));have HC1:=aa (fun W1 (h1:Mk g fv F s W1)=>kI hF h1 hB.p 119 hc.symm);have hgl:=h.lt;have H0:=aa (Mz.start h);clear h hc hb hd hgX;go_enter Tryz.func238,Tryz.ntmps238;go_upto_region 1 with fail
  refine jX fun W0 hb0 k0 hs0=>?_
  have HBX:=aa k0;have b0:=HBX.out.cell 0;have hbl:=HBX.out.lt;have hW0:W.heap.size≤W0.heap.size:=by omega
  have hgW:g≤W0.heap.size:=by omega
  have H1:=aa (H0.out.next hb0);clear hb0 k0 hs0;go_region
  skip
  have hB3:Below W0.heap.size W0 ((W0.alloc (.cells #[(.func (.func 250) #[.pointer (some ⟨g,0,none⟩)] #[])] 1)).drew):=((aD _ W0).alloc (an _) _).drew;have ky:Bk ((W0.alloc (.cells #[(.func (.func 250) #[.pointer (some ⟨g,0,none⟩)] #[])] 1)).drew) W0.heap.size 1 #[(.func (.func 250) #[.pointer (some ⟨g,0,none⟩)] #[])]:=Bk.new W0 _ _;generalize ((W0.alloc (.cells #[(.func (.func 250) #[.pointer (some ⟨g,0,none⟩)] #[])] 1)).drew)=W3 at ky hB3 ⊢;have HK:=aa ky;have H3:=aa (H1.out.next hB3);have HX3:=aa (HBX.out.below hB3 hbl);clear ky hB3;clear b0;have b0:=HX3.out.cell 0;go_upto_region 8 with (
    (go_at_call 135;with_reducible refine(HC1.out _ H3.out.m).mono ?_
     rintro e w4 ⟨rfl,hz⟩;have H4:=aa (H3.out.then hz);have HK4:=aa (Bk.kt HK.out hz.f.kt (by decide));have HX4:=aa (Bk.kt HX3.out hz.f.kt (by decide));clear hz))
  have b0:=HX4.out.cell 0;have m0:=HK4.out.cell 0;simp only[aP,aM] at m0;have m1:=HK4.out.frozen 0;go_region;all_goals (
    have hne:W.heap.size≠W0.heap.size:=by omega
    have H5:=aa ((Mz.setNew (v:=(.func (.func 253) #[.pointer (some ⟨g,0,none⟩)] #[])) H4.out HK4.out hW0 hgW (by decide) (by decide)).next (aD _ _).drew);have k5:Bk _ W0.heap.size 1 #[(.func (.func 253) #[.pointer (some ⟨g,0,none⟩)] #[])]:=(HK4.out.set 0 _).drew;have HK5:=aa k5;have HX5:=aa (HX4.out.far (p:=⟨W0.heap.size,0,none⟩) hne (.func (.func 253) #[.pointer (some ⟨g,0,none⟩)] #[])).drew;clear k5;go_wp2_with (
      (go_at_call 240;refine(HN.out _ H5.out.m _ _ HX5.out HK5.out).mono ?_;rintro e w6 ⟨rfl,hz⟩;have H6:=aa (H5.out.then hz);clear hz))
    first|go_end0|refine az (aI rfl _ _ _) rfl ?_
    exact⟨rfl,H6.out⟩)
theorem G9 (hF:FB F) (hL:GL F L) (HL:gL g fv F L q) (h:Mk g fv F s W) (hq:q≤s.p+1) (hB:Bd F 30 s) (hb:gx F s=true) (hc:sg F s.p=114) :
    Calls Tryz.prog 238 #[.pointer (some ⟨g,0,none⟩)] W fun e w'=>e=.returned (.tuple #[])∧Mz g fv F W (gW F L s) w':=by
  have hs:=kU hb;have hd:s.deep<200:=by
    unfold gx at hb;rw[aX] at hb;exact db hb.1
  have hT:gW F L s=kw 13 (fun t=>gy F ((fun t=>gu F L t) (dL t))) s:=by
    unfold gW;rw[hc];rfl
  rw[hT];clear hT;have hgX:∀t:Ps,t.p≤F.length→Gd F.length 14 t (gu F L t):=fun t ht=>ni hL 114 ht
  have hmix:Tryz.prog.follows .mixedOrders=true:=by kernel_rfl
  have HN:=aa (fun W1 (h1:Mk g fv F s W1) bx by_ hbx hby=>li (bx:=bx) (by_:=by_) (fX:=254) (X:=fun t=>gu F L t) (k:=13) hF h1 hs hB hd (by omega) hbx hby (enters_of Tryz.func254 (by kernel_rfl) rfl) hgX (fun t W2 ht hBt h2=>GX hF hL HL h2 (by omega) hBt));have HC1:=aa (fun W1 (h1:Mk g fv F s W1)=>kI hF h1 hB.p 114 hc.symm);have hgl:=h.lt;have H0:=aa (Mz.start h);clear h hc hb hd hgX;go_enter Tryz.func238,Tryz.ntmps238;go_upto_region 1 with fail
  refine jX fun W0 hb0 k0 hs0=>?_
  have HBX:=aa k0;have b0:=HBX.out.cell 0;have hbl:=HBX.out.lt;have hW0:W.heap.size≤W0.heap.size:=by omega
  have hgW:g≤W0.heap.size:=by omega
  have H1:=aa (H0.out.next hb0);clear hb0 k0 hs0;go_region
  skip
  have hB3:Below W0.heap.size W0 ((W0.alloc (.cells #[(.func (.func 250) #[.pointer (some ⟨g,0,none⟩)] #[])] 1)).drew):=((aD _ W0).alloc (an _) _).drew;have ky:Bk ((W0.alloc (.cells #[(.func (.func 250) #[.pointer (some ⟨g,0,none⟩)] #[])] 1)).drew) W0.heap.size 1 #[(.func (.func 250) #[.pointer (some ⟨g,0,none⟩)] #[])]:=Bk.new W0 _ _;generalize ((W0.alloc (.cells #[(.func (.func 250) #[.pointer (some ⟨g,0,none⟩)] #[])] 1)).drew)=W3 at ky hB3 ⊢;have HK:=aa ky;have H3:=aa (H1.out.next hB3);have HX3:=aa (HBX.out.below hB3 hbl);clear ky hB3;clear b0;have b0:=HX3.out.cell 0;go_upto_region 10 with (
    (go_at_call 135;with_reducible refine(HC1.out _ H3.out.m).mono ?_
     rintro e w4 ⟨rfl,hz⟩;have H4:=aa (H3.out.then hz);have HK4:=aa (Bk.kt HK.out hz.f.kt (by decide));have HX4:=aa (Bk.kt HX3.out hz.f.kt (by decide));clear hz))
  have b0:=HX4.out.cell 0;have m0:=HK4.out.cell 0;simp only[aP,aM] at m0;have m1:=HK4.out.frozen 0;go_region;all_goals (
    have hne:W.heap.size≠W0.heap.size:=by omega
    have H5:=aa ((Mz.setNew (v:=(.func (.func 254) #[.pointer (some ⟨g,0,none⟩)] #[])) H4.out HK4.out hW0 hgW (by decide) (by decide)).next (aD _ _).drew);have k5:Bk _ W0.heap.size 1 #[(.func (.func 254) #[.pointer (some ⟨g,0,none⟩)] #[])]:=(HK4.out.set 0 _).drew;have HK5:=aa k5;have HX5:=aa (HX4.out.far (p:=⟨W0.heap.size,0,none⟩) hne (.func (.func 254) #[.pointer (some ⟨g,0,none⟩)] #[])).drew;clear k5;go_wp2_with (
      (go_at_call 240;refine(HN.out _ H5.out.m _ _ HX5.out HK5.out).mono ?_;rintro e w6 ⟨rfl,hz⟩;have H6:=aa (H5.out.then hz);clear hz))
    first|go_end0|refine az (aI rfl _ _ _) rfl ?_
    exact⟨rfl,H6.out⟩)
theorem G8 (hF:FB F) (hL:GL F L) (HL:gL g fv F L q) (h:Mk g fv F s W) (hq:q≤s.p+1) (hB:Bd F 30 s) (hb:gx F s=true) (hc:sg F s.p=99) :
    Calls Tryz.prog 238 #[.pointer (some ⟨g,0,none⟩)] W fun e w'=>e=.returned (.tuple #[])∧Mz g fv F W (gW F L s) w':=by
  have hs:=kU hb;have hd:s.deep<200:=by
    unfold gx at hb;rw[aX] at hb;exact db hb.1
  have hT:gW F L s=kw 14 (fun t=>gy F ((fun t=>ju F L t) (dL t))) s:=by
    unfold gW;rw[hc];rfl
  rw[hT];clear hT;have hgX:∀t:Ps,t.p≤F.length→Gd F.length 14 t (ju F L t):=fun t ht=>ni hL 99 ht
  have hmix:Tryz.prog.follows .mixedOrders=true:=by kernel_rfl
  have HN:=aa (fun W1 (h1:Mk g fv F s W1) bx by_ hbx hby=>li (bx:=bx) (by_:=by_) (fX:=255) (X:=fun t=>ju F L t) (k:=14) hF h1 hs hB hd (by omega) hbx hby (enters_of Tryz.func255 (by kernel_rfl) rfl) hgX (fun t W2 ht hBt h2=>J8 hF hL HL h2 (by omega) hBt));have HC1:=aa (fun W1 (h1:Mk g fv F s W1)=>kI hF h1 hB.p 99 hc.symm);have hgl:=h.lt;have H0:=aa (Mz.start h);clear h hc hb hd hgX;go_enter Tryz.func238,Tryz.ntmps238;go_upto_region 1 with fail
  refine jX fun W0 hb0 k0 hs0=>?_
  have HBX:=aa k0;have b0:=HBX.out.cell 0;have hbl:=HBX.out.lt;have hW0:W.heap.size≤W0.heap.size:=by omega
  have hgW:g≤W0.heap.size:=by omega
  have H1:=aa (H0.out.next hb0);clear hb0 k0 hs0;go_region
  skip
  have hB3:Below W0.heap.size W0 ((W0.alloc (.cells #[(.func (.func 250) #[.pointer (some ⟨g,0,none⟩)] #[])] 1)).drew):=((aD _ W0).alloc (an _) _).drew;have ky:Bk ((W0.alloc (.cells #[(.func (.func 250) #[.pointer (some ⟨g,0,none⟩)] #[])] 1)).drew) W0.heap.size 1 #[(.func (.func 250) #[.pointer (some ⟨g,0,none⟩)] #[])]:=Bk.new W0 _ _;generalize ((W0.alloc (.cells #[(.func (.func 250) #[.pointer (some ⟨g,0,none⟩)] #[])] 1)).drew)=W3 at ky hB3 ⊢;have HK:=aa ky;have H3:=aa (H1.out.next hB3);have HX3:=aa (HBX.out.below hB3 hbl);clear ky hB3;clear b0;have b0:=HX3.out.cell 0;go_upto_region 12 with (
    (go_at_call 135;with_reducible refine(HC1.out _ H3.out.m).mono ?_
     rintro e w4 ⟨rfl,hz⟩;have H4:=aa (H3.out.then hz);have HK4:=aa (Bk.kt HK.out hz.f.kt (by decide));have HX4:=aa (Bk.kt HX3.out hz.f.kt (by decide));clear hz))
  have b0:=HX4.out.cell 0;have m0:=HK4.out.cell 0;simp only[aP,aM] at m0;have m1:=HK4.out.frozen 0;go_region;all_goals (
    have hne:W.heap.size≠W0.heap.size:=by omega
    have H5:=aa ((Mz.setNew (v:=(.func (.func 255) #[.pointer (some ⟨g,0,none⟩)] #[])) H4.out HK4.out hW0 hgW (by decide) (by decide)).next (aD _ _).drew);have k5:Bk _ W0.heap.size 1 #[(.func (.func 255) #[.pointer (some ⟨g,0,none⟩)] #[])]:=(HK4.out.set 0 _).drew;have HK5:=aa k5;have HX5:=aa (HX4.out.far (p:=⟨W0.heap.size,0,none⟩) hne (.func (.func 255) #[.pointer (some ⟨g,0,none⟩)] #[])).drew;clear k5;go_wp2_with (
      (go_at_call 240;refine(HN.out _ H5.out.m _ _ HX5.out HK5.out).mono ?_;rintro e w6 ⟨rfl,hz⟩;have H6:=aa (H5.out.then hz);clear hz))
    first|go_end0|refine az (aI rfl _ _ _) rfl ?_
    exact⟨rfl,H6.out⟩)
theorem uA (hF:FB F) (hL:GL F L) (HL:gL g fv F L q) (h:Mk g fv F s W) (hq:q≤s.p+1) (hB:Bd F 30 s) (hb:gx F s=true) :
    Calls Tryz.prog 238 #[.pointer (some ⟨g,0,none⟩)] W fun e w'=>e=.returned (.tuple #[])∧Mz g fv F W (gW F L s) w':=by
  have hc:sg F s.p∈[123,40,105,119,114,99]:=by
    have h1:=hb;unfold gx at h1;rw[aX] at h1;exact List.contains_iff_mem.1 h1.2
  simp only[bR,List.not_mem_nil,or_false] at hc;rcases hc with hc|hc|hc|hc|hc|hc
  ·exact J1 hF hL HL h hq hB hb hc
  ·exact Hc hF hL HL h hq hB hb hc
  ·exact Hb hF hL HL h hq hB hb hc
  ·exact Ha hF hL HL h hq hB hb hc
  ·exact G9 hF hL HL h hq hB hb hc
  ·exact G8 hF hL HL h hq hB hb hc
theorem IG (hs:s.p≤F.length) (hb:eO F s=true):fW F s=fW F (fK F s):=by
  unfold fW;rw[LC.stepy kH hs (t:=fK F s) (by show (if _ then _ else _)=_;rw[aE hb])]
theorem II (hs:s.p≤F.length) (hb:eO F s=false) (hw:i4 F s.p=true) (ha:mP (tx F s.p)=true):fW F s=fW F (eC 6 s):=by
  unfold fW;rw[LC.stepy kH hs (t:=eC 6 s) (by show (if _ then _ else if _ then _ else _)=_;rw[aB (by rw[hb];decide),aE (by rw[hw,ha];rfl)])]
theorem IF (hs:s.p≤F.length) (hb:eO F s=false) (hw:i4 F s.p=true) (ha:mP (tx F s.p)=false):fW F s=iC F (eC 7 s):=by
  have e:=LC.stepn kH hs (t:=s) (by show (if _ then _ else if _ then _ else _)=_;rw[aB (by rw[hb];decide),aB (by rw[hw,ha];decide)]);unfold fW;simp only[e,hw,bW]
theorem IH (hs:s.p≤F.length) (hb:eO F s=false) (hw:i4 F s.p=false):fW F s=s:=by
  have e:=LC.stepn kH hs (t:=s) (by show (if _ then _ else if _ then _ else _)=_;rw[aB (by rw[hb];decide),aB (by rw[hw];exact fun h=>by cases h)]);unfold fW;simp only[e,hw,br,aK]
theorem IK (hs:s.p≤F.length) (hb:eO F s=true):iC F s=iC F (fK F s):=
  LC.stepy mS hs (t:=fK F s) (by show (if _ then _ else _)=_;rw[aE hb])
theorem IJ (hs:s.p≤F.length) (hb:eO F s=false) (hw:i4 F s.p=true):iC F s=iC F (eC 7 s):=
  LC.stepy mS hs (t:=eC 7 s) (by show (if _ then _ else if _ then _ else _)=_;rw[aB (by rw[hb];decide),aE hw])
theorem IL (hs:s.p≤F.length) (hb:eO F s=false) (hw:i4 F s.p=false):iC F s=s:=
  LC.stepn mS hs (t:=s) (by show (if _ then _ else if _ then _ else _)=_;rw[aB (by rw[hb];decide),aB (by rw[hw];decide)])
structure Sm (F:List Lf) (T u:Ps) (b:Bool):Prop where
  w:(b=false∧fW F u=T)∨(b=true∧iC F u=T)
theorem KS (h:i4 F u.p=true):Gd F.length 0 u (eC 6 u)∧u.p<(eC 6 u).p:=⟨(gr (F:=F) (k:=6) (fZ h)).2.2,(gr (F:=F) (k:=6) (fZ h)).2.1⟩
theorem Ew (h:i4 F u.p=true):Gd F.length 0 u (eC 7 u)∧u.p<(eC 7 u).p:=⟨(gr (F:=F) (k:=7) (fZ h)).2.2,(gr (F:=F) (k:=7) (fZ h)).2.1⟩
theorem Ex (hF:FB F) (h:Mk g fv F s W) (hB:Bd F 27 s) :
    Calls Tryz.prog 242 #[.pointer (some ⟨g,0,none⟩)] W fun e w'=>e=.returned (.tuple #[])∧Mz g fv F W (fW F s) w':=by
  have hmix:Tryz.prog.follows .mixedOrders=true:=by kernel_rfl
  obtain⟨T,hT⟩:∃T,T=fW F s:=⟨_,rfl⟩;rw[←hT];have HT:=aa hT;clear hT;have H0:=aa (Mz.start h);clear h;go_enter Tryz.func242,Tryz.ntmps242;go_wp2_with fail;go_step3;go_wp2_with fail;go_step3;go_wp2_with fail;go_loopw [2] (fun v wr=>∃(u:Ps) (b:Bool),v=.bool b∧Bd F 27 u∧Sm F T u b∧Mz g fv F W u wr) (fun _ wr=>F.length-pOf g wr)
  case atStart=>exact⟨s,false,rfl,hB,⟨.inl ⟨rfl,HT.out.symm⟩⟩,H0.out⟩
  case round=>
    obtain⟨u,b,rfl,hBu,hsm,hz⟩:=hrel;have U0:=aa hz;have hup:=hz.m.pOf;have HP:=aa hup;have HS:=aa hsm;clear hz hup hsm
    cases hb:eO F u
    ·cases hw:i4 F u.p
     ·have hT9:T=u:=by
        rcases HS.out.w with ⟨_,h2⟩|⟨_,h2⟩
        ·exact h2.symm.trans (IH hBu.p hb hw)
        ·exact h2.symm.trans (IL hBu.p hb hw)
      have HT9:=aa hT9;clear hT9;have NC1:=aa (fun W1 (h1:Mk g fv F (u) W1)=>jT hF h1 (hBu.mono (by omega)) hb);have NC2:=aa (fun W1 (h1:Mk g fv F (u) W1)=>gm hF h1 hBu.p hw)
      go_wp2_with (first
        | (go_at_call 257;with_reducible refine(NC1.out _ U0.out.m).mono (Mz.k U0 fun nw1 N1=>?_))
        | (go_at_call 261;with_reducible refine(NC2.out _ N1.out.m).mono (Mz.k N1 fun nw2 N2=>?_))
        | fail)
      try rw[bp]
      first|go_end0|refine az (aI rfl _ _ _) rfl ?_
      refine⟨rfl,?_⟩;rw[HT9.out];exact N2.out
     ·cases b
      ·cases ha:mP (tx F u.p)
       ·have h2:fW F u=T:=by
          rcases HS.out.w with ⟨h1,h2⟩|⟨h1,h2⟩
          ·exact h2
          ·cases h1
        have hsm:Sm F T (eC 7 u) true:=⟨.inr ⟨rfl,(IF hBu.p hb hw ha).symm.trans h2⟩⟩;have HS2:=aa hsm;clear hsm h2;have hy:=Ew hw;have NC1:=aa (fun W1 (h1:Mk g fv F (u) W1)=>jT hF h1 (hBu.mono (by omega)) hb);have NC2:=aa (fun W1 (h1:Mk g fv F (u) W1)=>iS hF h1 hBu.p hw)
        go_upto_region 5 with (first
          | (go_at_call 257;with_reducible refine(NC1.out _ U0.out.m).mono (Mz.k U0 fun nw1 N1=>?_))
          | (go_at_call 261;with_reducible refine(NC2.out _ N1.out.m).mono (Mz.k N1 fun nw2 N2=>?_))
          | fail)
        have SH:=aa N2.out;obtain⟨y0,y1,y3,y4,_⟩:=SH.out.m.cells;have hlt:=fZ hw;obtain⟨x,hx⟩:∃x,F[u.p]? = some x:=⟨_,ax hlt⟩;have htx:tx F u.p=x.tx:=by unfold tx;rw[hx]
        have htl:=hF.t x (aW hx);obtain⟨A,c,hfv⟩:=SH.out.m.f.formm;have hf9:=SH.out.m.f;rw[hfv] at hf9;obtain⟨g1,o1,hA9,z0,z1,z2,z3⟩:=jn hf9 hx rfl;rw[hfv,hA9] at y0;have u1:(u.p:Int)<(F.length:Int):=by omega
        have u2:(0:Int)≤(u.p:Int):=by omega
        have hn9:=fun W=>vS x.tx W (by omega)
        rw[←htx] at hn9;rw[ha] at hn9;rw[htx] at hn9;have HN:=aa hn9;clear hn9 htx hx htl z0 z2 z3 hf9 hA9 hfv y3 y4;obtain⟨S0,hS0⟩:∃S0:World→Prop,S0=fun w'=>Below nw2.heap.size nw2 w':=⟨_,rfl⟩
        refine wp_region_held (S:=S0) hmix ?_;show wpAnyH _ _ _ _ _ _ _ _ nw2.drew;have hS1:S0 nw2.drew:=by rw[hS0];exact(aD _ nw2).drew
        have tc:∀(w':World),S0 w'→∀(a:Addr) (v:Value),nw2.cell? a=some v→w'.cell? a=some v:=fun w' h a v hc=>zM (by rw[hS0] at h;exact h) hc
        refine tk 0 (.bool false) hS1 (fun w' hS=>?_) ?_
        ·go_simp
        try simp only[Act.put,am,ai,aj,ae,ar,au]
        refine tk 1 (.bool true) hS1 (fun w' hS=>?_) ?_
        ·go_simp
        try simp only[Act.put,am,ai,aj,ae,ar,au]
        refine tk 2 (.bool true) hS1 (fun w' hS=>?_) ?_
        ·go_simp
        try simp only[Act.put,am,ai,aj,ae,ar,au]
        refine tk 3 (.pointer (some ⟨g,0,none⟩)) hS1 (fun w' hS=>?_) ?_
        ·go_simp
        try simp only[Act.put,am,ai,aj,ae,ar,au]
        refine tk 4 (.pointer (some ⟨g,0,none⟩)) hS1 (fun w' hS=>?_) ?_
        ·go_simp
        try simp only[Act.put,am,ai,aj,ae,ar,au]
        refine tk 5 (.pointer (some ⟨g,0,none⟩)) hS1 (fun w' hS=>?_) ?_
        ·go_simp
        try simp only[Act.put,am,ai,aj,ae,ar,au]
        refine tk 6 (.slice (some ⟨g1,o1,none⟩) F.length c) hS1 (fun w' hS=>?_) ?_
        ·have c0:=tc w' hS _ _ y0;go_simp
        try simp only[Act.put,am,ai,aj,ae,ar,au]
        refine tk 7 (.pointer (some ⟨g,0,none⟩)) hS1 (fun w' hS=>?_) ?_
        ·go_simp
        try simp only[Act.put,am,ai,aj,ae,ar,au]
        refine tk 8 (.pointer (some ⟨g,0,none⟩)) hS1 (fun w' hS=>?_) ?_
        ·go_simp
        try simp only[Act.put,am,ai,aj,ae,ar,au]
        refine tk 9 (.pointer (some ⟨g,1,none⟩)) hS1 (fun w' hS=>?_) ?_
        ·go_simp
        try simp only[Act.put,am,ai,aj,ae,ar,au]
        refine tk 10 (.int .i64 (u.p:Int)) hS1 (fun w' hS=>?_) ?_
        ·have c0:=tc w' hS _ _ y1;go_simp
        try simp only[Act.put,am,ai,aj,ae,ar,au]
        refine tk 11 (.pointer (some ⟨g1,o1+u.p*4,none⟩)) hS1 (fun w' hS=>?_) ?_
        ·go_simp
        try simp only[Act.put,am,ai,aj,ae,ar,au]
        refine tk 12 (.pointer (some ⟨g1,o1+u.p*4+1,none⟩)) hS1 (fun w' hS=>?_) ?_
        ·go_simp
        try simp only[Act.put,am,ai,aj,ae,ar,au]
        refine tk 13 (.string ⟨x.tx.toArray⟩) hS1 (fun w' hS=>?_) ?_
        ·have c0:=tc w' hS _ _ z1;go_simp
        try simp only[Act.put,am,ai,aj,ae,ar,au]
        refine wpAnyH_all (rs:=[14]) (by decide +kernel) (by simp) (lH rfl (by rfl) (fun K2 hK2=>?_) (lI (S:=S0)));go_simp;go_at_call 262;refine(HN.out _).mono ?_;rintro e w9 ⟨rfl,hz⟩;have HB:=aa ((aD _ nw2).drew.trans hz);clear hz;have hS3:S0 w9:=by rw[hS0];exact HB.out
        refine hK2 _ _ hS3 ?_;clear hK2 K2;try simp only[Act.put,am,ai,aj,ae,ar,au]
        refine tk 15 (.bool false) hS3 (fun w' hS=>?_) ?_
        ·go_simp
        try simp only[Act.put,am,ai,aj,ae,ar,au]
        refine tk 16 (.bool false) hS3 (fun w' hS=>?_) ?_
        ·go_simp
        try simp only[Act.put,am,ai,aj,ae,ar,au]
        refine wpAnyH_done (by decide +kernel) ?_ _;have E0:=aa (SH.out.next HB.out);clear hS0 hS1 tc hS3;have MC1:=aa (fun W1 (h1:Mk g fv F (u) W1)=>lS hF h1 (hBu.mono (by omega)) (fZ hw));go_wp2_with (
          (go_at_call 103;with_reducible refine(MC1.out _ E0.out.m).mono (Mz.k E0 fun mw1 M1=>?_)))
        refine⟨⟨_,_,rfl,hBu.gd hy.1,HS2.out,M1.out⟩,?_⟩;rw[M1.out.m.pOf,HP.out]
        have:=hy.2
        have:=hy.1.N
        omega
       ·have h2:fW F u=T:=by
          rcases HS.out.w with ⟨h1,h2⟩|⟨h1,h2⟩
          ·exact h2
          ·cases h1
        have hsm:Sm F T (eC 6 u) false:=⟨.inl ⟨rfl,(II hBu.p hb hw ha).symm.trans h2⟩⟩;have HS2:=aa hsm;clear hsm h2;have hy:=KS hw;have NC1:=aa (fun W1 (h1:Mk g fv F (u) W1)=>jT hF h1 (hBu.mono (by omega)) hb);have NC2:=aa (fun W1 (h1:Mk g fv F (u) W1)=>iS hF h1 hBu.p hw)
        go_upto_region 5 with (first
          | (go_at_call 257;with_reducible refine(NC1.out _ U0.out.m).mono (Mz.k U0 fun nw1 N1=>?_))
          | (go_at_call 261;with_reducible refine(NC2.out _ N1.out.m).mono (Mz.k N1 fun nw2 N2=>?_))
          | fail)
        have SH:=aa N2.out;obtain⟨y0,y1,y3,y4,_⟩:=SH.out.m.cells;have hlt:=fZ hw;obtain⟨x,hx⟩:∃x,F[u.p]? = some x:=⟨_,ax hlt⟩;have htx:tx F u.p=x.tx:=by unfold tx;rw[hx]
        have htl:=hF.t x (aW hx);obtain⟨A,c,hfv⟩:=SH.out.m.f.formm;have hf9:=SH.out.m.f;rw[hfv] at hf9;obtain⟨g1,o1,hA9,z0,z1,z2,z3⟩:=jn hf9 hx rfl;rw[hfv,hA9] at y0;have u1:(u.p:Int)<(F.length:Int):=by omega
        have u2:(0:Int)≤(u.p:Int):=by omega
        have hn9:=fun W=>vS x.tx W (by omega)
        rw[←htx] at hn9;rw[ha] at hn9;rw[htx] at hn9;have HN:=aa hn9;clear hn9 htx hx htl z0 z2 z3 hf9 hA9 hfv y3 y4;obtain⟨S0,hS0⟩:∃S0:World→Prop,S0=fun w'=>Below nw2.heap.size nw2 w':=⟨_,rfl⟩
        refine wp_region_held (S:=S0) hmix ?_;show wpAnyH _ _ _ _ _ _ _ _ nw2.drew;have hS1:S0 nw2.drew:=by rw[hS0];exact(aD _ nw2).drew
        have tc:∀(w':World),S0 w'→∀(a:Addr) (v:Value),nw2.cell? a=some v→w'.cell? a=some v:=fun w' h a v hc=>zM (by rw[hS0] at h;exact h) hc
        refine tk 0 (.bool false) hS1 (fun w' hS=>?_) ?_
        ·go_simp
        try simp only[Act.put,am,ai,aj,ae,ar,au]
        refine tk 1 (.bool true) hS1 (fun w' hS=>?_) ?_
        ·go_simp
        try simp only[Act.put,am,ai,aj,ae,ar,au]
        refine tk 2 (.bool true) hS1 (fun w' hS=>?_) ?_
        ·go_simp
        try simp only[Act.put,am,ai,aj,ae,ar,au]
        refine tk 3 (.pointer (some ⟨g,0,none⟩)) hS1 (fun w' hS=>?_) ?_
        ·go_simp
        try simp only[Act.put,am,ai,aj,ae,ar,au]
        refine tk 4 (.pointer (some ⟨g,0,none⟩)) hS1 (fun w' hS=>?_) ?_
        ·go_simp
        try simp only[Act.put,am,ai,aj,ae,ar,au]
        refine tk 5 (.pointer (some ⟨g,0,none⟩)) hS1 (fun w' hS=>?_) ?_
        ·go_simp
        try simp only[Act.put,am,ai,aj,ae,ar,au]
        refine tk 6 (.slice (some ⟨g1,o1,none⟩) F.length c) hS1 (fun w' hS=>?_) ?_
        ·have c0:=tc w' hS _ _ y0;go_simp
        try simp only[Act.put,am,ai,aj,ae,ar,au]
        refine tk 7 (.pointer (some ⟨g,0,none⟩)) hS1 (fun w' hS=>?_) ?_
        ·go_simp
        try simp only[Act.put,am,ai,aj,ae,ar,au]
        refine tk 8 (.pointer (some ⟨g,0,none⟩)) hS1 (fun w' hS=>?_) ?_
        ·go_simp
        try simp only[Act.put,am,ai,aj,ae,ar,au]
        refine tk 9 (.pointer (some ⟨g,1,none⟩)) hS1 (fun w' hS=>?_) ?_
        ·go_simp
        try simp only[Act.put,am,ai,aj,ae,ar,au]
        refine tk 10 (.int .i64 (u.p:Int)) hS1 (fun w' hS=>?_) ?_
        ·have c0:=tc w' hS _ _ y1;go_simp
        try simp only[Act.put,am,ai,aj,ae,ar,au]
        refine tk 11 (.pointer (some ⟨g1,o1+u.p*4,none⟩)) hS1 (fun w' hS=>?_) ?_
        ·go_simp
        try simp only[Act.put,am,ai,aj,ae,ar,au]
        refine tk 12 (.pointer (some ⟨g1,o1+u.p*4+1,none⟩)) hS1 (fun w' hS=>?_) ?_
        ·go_simp
        try simp only[Act.put,am,ai,aj,ae,ar,au]
        refine tk 13 (.string ⟨x.tx.toArray⟩) hS1 (fun w' hS=>?_) ?_
        ·have c0:=tc w' hS _ _ z1;go_simp
        try simp only[Act.put,am,ai,aj,ae,ar,au]
        refine wpAnyH_all (rs:=[14]) (by decide +kernel) (by simp) (lH rfl (by rfl) (fun K2 hK2=>?_) (lI (S:=S0)));go_simp;go_at_call 262;refine(HN.out _).mono ?_;rintro e w9 ⟨rfl,hz⟩;have HB:=aa ((aD _ nw2).drew.trans hz);clear hz;have hS3:S0 w9:=by rw[hS0];exact HB.out
        refine hK2 _ _ hS3 ?_;clear hK2 K2;try simp only[Act.put,am,ai,aj,ae,ar,au]
        refine tk 15 (.bool true) hS3 (fun w' hS=>?_) ?_
        ·go_simp
        try simp only[Act.put,am,ai,aj,ae,ar,au]
        refine tk 16 (.bool true) hS3 (fun w' hS=>?_) ?_
        ·go_simp
        try simp only[Act.put,am,ai,aj,ae,ar,au]
        refine wpAnyH_done (by decide +kernel) ?_ _;have E0:=aa (SH.out.next HB.out);clear hS0 hS1 tc hS3;have MC1:=aa (fun W1 (h1:Mk g fv F (u) W1)=>Ju hF h1 (hBu.mono (by omega)) (fZ hw));go_wp2_with (
          (go_at_call 103;with_reducible refine(MC1.out _ E0.out.m).mono (Mz.k E0 fun mw1 M1=>?_)))
        refine⟨⟨_,_,rfl,hBu.gd hy.1,HS2.out,M1.out⟩,?_⟩;rw[M1.out.m.pOf,HP.out]
        have:=hy.2
        have:=hy.1.N
        omega
      ·have h2:iC F u=T:=by
         rcases HS.out.w with ⟨h1,h2⟩|⟨h1,h2⟩
         ·cases h1
         ·exact h2
       have hsm:Sm F T (eC 7 u) true:=⟨.inr ⟨rfl,(IJ hBu.p hb hw).symm.trans h2⟩⟩;have HS2:=aa hsm;clear hsm h2;have hy:=Ew hw;have NC1:=aa (fun W1 (h1:Mk g fv F (u) W1)=>jT hF h1 (hBu.mono (by omega)) hb);have NC2:=aa (fun W1 (h1:Mk g fv F (u) W1)=>iS hF h1 hBu.p hw)
       go_upto_region 5 with (first
         | (go_at_call 257;with_reducible refine(NC1.out _ U0.out.m).mono (Mz.k U0 fun nw1 N1=>?_))
         | (go_at_call 261;with_reducible refine(NC2.out _ N1.out.m).mono (Mz.k N1 fun nw2 N2=>?_))
         | fail)
       have SH:=aa N2.out;obtain⟨y0,y1,y3,y4,_⟩:=SH.out.m.cells;clear y0 y1 y3 y4;obtain⟨S0,hS0⟩:∃S0:World→Prop,S0=fun w'=>Below nw2.heap.size nw2 w':=⟨_,rfl⟩
       refine wp_region_held (S:=S0) hmix ?_;show wpAnyH _ _ _ _ _ _ _ _ nw2.drew;have hS1:S0 nw2.drew:=by rw[hS0];exact(aD _ nw2).drew
       have tc:∀(w':World),S0 w'→∀(a:Addr) (v:Value),nw2.cell? a=some v→w'.cell? a=some v:=fun w' h a v hc=>zM (by rw[hS0] at h;exact h) hc
       refine tk 0 (.bool true) hS1 (fun w' hS=>?_) ?_
       ·go_simp
       try simp only[Act.put,am,ai,aj,ae,ar,au]
       refine tk 1 (.bool false) hS1 (fun w' hS=>?_) ?_
       ·go_simp
       try simp only[Act.put,am,ai,aj,ae,ar,au]
       refine tk 2 (.bool false) hS1 (fun w' hS=>?_) ?_
       ·go_simp
       try simp only[Act.put,am,ai,aj,ae,ar,au]
       refine sk 3 hS1 ?_;try simp only[Act.put,am,ai,aj,ae,ar,au]
       refine sk 4 hS1 ?_;try simp only[Act.put,am,ai,aj,ae,ar,au]
       refine sk 5 hS1 ?_;try simp only[Act.put,am,ai,aj,ae,ar,au]
       refine sk 6 hS1 ?_;try simp only[Act.put,am,ai,aj,ae,ar,au]
       refine sk 7 hS1 ?_;try simp only[Act.put,am,ai,aj,ae,ar,au]
       refine sk 8 hS1 ?_;try simp only[Act.put,am,ai,aj,ae,ar,au]
       refine sk 9 hS1 ?_;try simp only[Act.put,am,ai,aj,ae,ar,au]
       refine sk 10 hS1 ?_;try simp only[Act.put,am,ai,aj,ae,ar,au]
       refine sk 11 hS1 ?_;try simp only[Act.put,am,ai,aj,ae,ar,au]
       refine sk 12 hS1 ?_;try simp only[Act.put,am,ai,aj,ae,ar,au]
       refine sk 13 hS1 ?_;try simp only[Act.put,am,ai,aj,ae,ar,au]
       refine sk 14 hS1 ?_;try simp only[Act.put,am,ai,aj,ae,ar,au]
       refine tk 15 (.bool false) hS1 (fun w' hS=>?_) ?_
       ·go_simp
       try simp only[Act.put,am,ai,aj,ae,ar,au]
       refine tk 16 (.bool false) hS1 (fun w' hS=>?_) ?_
       ·go_simp
       try simp only[Act.put,am,ai,aj,ae,ar,au]
       refine wpAnyH_done (by decide +kernel) ?_ _;have E0:=aa (SH.out.next (aD _ _).drew);clear hS0 hS1 tc;have MC1:=aa (fun W1 (h1:Mk g fv F (u) W1)=>lS hF h1 (hBu.mono (by omega)) (fZ hw));go_wp2_with (
         (go_at_call 103;with_reducible refine(MC1.out _ E0.out.m).mono (Mz.k E0 fun mw1 M1=>?_)))
       refine⟨⟨_,_,rfl,hBu.gd hy.1,HS2.out,M1.out⟩,?_⟩;rw[M1.out.m.pOf,HP.out]
       have:=hy.2
       have:=hy.1.N
       omega
    ·have hy:=nU hb;have hsm:Sm F T (fK F u) b:=by
       rcases HS.out.w with ⟨h1,h2⟩|⟨h1,h2⟩
       ·exact⟨.inl ⟨h1,(IG hBu.p hb).symm.trans h2⟩⟩
       ·exact⟨.inr ⟨h1,(IK hBu.p hb).symm.trans h2⟩⟩
     have HS2:=aa hsm;clear hsm;have NC1:=aa (fun W1 (h1:Mk g fv F (u) W1)=>se hF h1 (hBu.mono (by omega)) hb);go_wp2_with (
       (go_at_call 257;with_reducible refine(NC1.out _ U0.out.m).mono (Mz.k U0 fun nw1 N1=>?_)))
     refine⟨⟨_,_,rfl,hBu.gd hy.1,HS2.out,N1.out⟩,?_⟩;rw[N1.out.m.pOf,HP.out]
     have:=hy.2
     have:=hy.1.N
     omega
theorem G6 (hF:FB F) (hL:GL F L) (HL:gL g fv F L q) (h:Mk g fv F s W) (hq:q≤s.p+1) (hB:Bd F 28 s) :
    Calls Tryz.prog 241 #[.pointer (some ⟨g,0,none⟩)] W fun e w'=>e=.returned (.tuple #[])∧Mz g fv F W (mK F L s) w':=by
  obtain⟨T,hT⟩:∃T,T=mK F L s:=⟨_,rfl⟩;rw[←hT];have HT:=aa hT;clear hT;have hg1:=ij (F:=F) hB.p;have hB1:=hB.gd hg1;have hg2:=gD (F:=F) (cs:=[40]) (by decide) hB1.p;have hB2:=hB1.gd hg2;have hg3:=fO (F:=F) (c:=41) (by decide) hB2.p;have hB3:=hB2.gd hg3;have hg4:=dZ (F:=F) hB3.p;have hB4:=hB3.gd hg4;have hq4:q≤(dJ F (eE F 41 (eB F [40] (eD F s)))).p+1:=aA hq (bE (aA hg1.p (aA hg2.p (aA hg3.p hg4.p))))
  cases hb:gx F (dJ F (eE F 41 (eB F [40] (eD F s))))
  ·have HC1:=aa (fun W1 (h1:Mk g fv F (s) W1)=>oN hF h1 (hB.mono (by omega)));have HC2:=aa (fun W1 (h1:Mk g fv F (eD F s) W1)=>lZ hF h1 hB1.p [40] (by decide));have HC3:=aa (fun W1 (h1:Mk g fv F (eB F [40] (eD F s)) W1)=>iI hF h1 (hB2.mono (by omega)) 41 (by decide));have HC4:=aa (fun W1 (h1:Mk g fv F (eE F 41 (eB F [40] (eD F s))) W1)=>fI hF h1 hB3.p);have HC5:=aa (fun W1 (h1:Mk g fv F (dJ F (eE F 41 (eB F [40] (eD F s)))) W1)=>kQ hF h1 hB4.p hb);have HC6:=aa (fun W1 (h1:Mk g fv F (dJ F (eE F 41 (eB F [40] (eD F s)))) W1)=>fU hF h1 (hB4.mono (by omega)));have H0:=aa (Mz.start h);clear h;go_enter Tryz.func241,Tryz.ntmps241
   go_wp2_with (first
     | (go_at_call 259;with_reducible refine(HC1.out _ H0.out.m).mono (Mz.k H0 fun hw1 H1=>?_))
     | (go_at_call 100;with_reducible refine(HC2.out _ H1.out.m).mono (Mz.k H1 fun hw2 H2=>?_))
     | (go_at_call 260;with_reducible refine(HC3.out _ H2.out.m).mono (Mz.k H2 fun hw3 H3=>?_))
     | (go_at_call 138;with_reducible refine(HC4.out _ H3.out.m).mono (Mz.k H3 fun hw4 H4=>?_))
     | (go_at_call 171;with_reducible refine(HC5.out _ H4.out.m).mono (Mz.k H4 fun hw5 H5=>?_))
     | (go_at_call 204;with_reducible refine(HC6.out _ H5.out.m).mono (Mz.k H5 fun hw6 H6=>?_))
     | fail)
   first|go_end0|refine az (aI rfl _ _ _) rfl ?_
   refine⟨rfl,?_⟩;rw[HT.out];unfold mK;simp only;rw[aB (by rw[hb];decide)];exact H6.out
  ·have HC1:=aa (fun W1 (h1:Mk g fv F (s) W1)=>oN hF h1 (hB.mono (by omega)));have HC2:=aa (fun W1 (h1:Mk g fv F (eD F s) W1)=>lZ hF h1 hB1.p [40] (by decide));have HC3:=aa (fun W1 (h1:Mk g fv F (eB F [40] (eD F s)) W1)=>iI hF h1 (hB2.mono (by omega)) 41 (by decide));have HC4:=aa (fun W1 (h1:Mk g fv F (eE F 41 (eB F [40] (eD F s))) W1)=>fI hF h1 hB3.p);have HC5:=aa (fun W1 (h1:Mk g fv F (dJ F (eE F 41 (eB F [40] (eD F s)))) W1)=>qZ hF h1 hB4.p hb);have HC6:=aa (fun W1 (h1:Mk g fv F (dJ F (eE F 41 (eB F [40] (eD F s)))) W1)=>uA hF hL HL h1 hq4 (hB4.mono (by omega)) hb);have H0:=aa (Mz.start h);clear h;go_enter Tryz.func241,Tryz.ntmps241
   go_wp2_with (first
     | (go_at_call 259;with_reducible refine(HC1.out _ H0.out.m).mono (Mz.k H0 fun hw1 H1=>?_))
     | (go_at_call 100;with_reducible refine(HC2.out _ H1.out.m).mono (Mz.k H1 fun hw2 H2=>?_))
     | (go_at_call 260;with_reducible refine(HC3.out _ H2.out.m).mono (Mz.k H2 fun hw3 H3=>?_))
     | (go_at_call 138;with_reducible refine(HC4.out _ H3.out.m).mono (Mz.k H3 fun hw4 H4=>?_))
     | (go_at_call 171;with_reducible refine(HC5.out _ H4.out.m).mono (Mz.k H4 fun hw5 H5=>?_))
     | (go_at_call 238;with_reducible refine(HC6.out _ H5.out.m).mono (Mz.k H5 fun hw6 H6=>?_))
     | fail)
   first|go_end0|refine az (aI rfl _ _ _) rfl ?_
   refine⟨rfl,?_⟩;rw[HT.out];unfold mK;simp only;rw[aE hb];exact H6.out
theorem Jn (hF:FB F) (hL:GL F L) (HL:gL g fv F L q) (h:Mk g fv F s W) (hq:q≤s.p+1) (hB:Bd F 26 s) (hf:nV F s=true) :
    Calls Tryz.prog 240 #[.pointer (some ⟨g,0,none⟩),.int .i64 16,.func (.func 241) #[.pointer (some ⟨g,0,none⟩)] #[]] W fun e w'=>e=.returned (.tuple #[])∧Mz g fv F W (kw 16 (mK F L) s) w':=by
  have hx:sg F s.p=120∧s.deep<200:=by unfold nV at hf;simp at hf;exact⟨hf.1,hf.2.2.1⟩
  have hi:Bd F 27 (fB 16 {s with deep:=s.deep+1}):=⟨hB.p,by have:=hB.l;show (s.l++[_]).length≤46*s.p+27;rw[aH];show s.l.length+1≤_;omega,by show s.deep+1≤200;omega⟩;have hg:=(Bj hL (s:=fB 16 {s with deep:=s.deep+1}) hx.1).1;have hn:=hF.n;have h1:=hg.l;have h2:=hg.N;have h3:=hg.dp;have l1:(fB 16 {s with deep:=s.deep+1}).l.length=s.l.length+1:=by show (s.l++[_]).length=_;simp
  exact yG (s:=s) (t:=mK F L (fB 16 {s with deep:=s.deep+1})) 16 _ #[.pointer (some ⟨g,0,none⟩)] #[] h (hB.l5 hF (by omega)) (by omega) (by omega) (enters_of Tryz.func241 (by kernel_rfl) rfl)
    (fun W1 z1=>G6 hF hL HL z1.m hq (hi.mono (by omega))) (by omega) (by omega) (h3.trans rfl)
theorem Jm (hF:FB F) (h:Mk g fv F s W) (hB:Bd F 26 s) :
    Calls Tryz.prog 58 #[.pointer (some ⟨g,0,none⟩),.int .i64 5,.func (.func 242) #[.pointer (some ⟨g,0,none⟩)] #[]] W fun e w'=>e=.returned (.tuple #[])∧Mz g fv F W (dN 5 (fW F) s) w':=by
  have hi:=hB.inn 5;have hg:=wQ (F:=F) hi.p;have hn:=hF.n;have h1:=hg.l;have h2:=hg.N;rw[oP] at h1;exact tU (t:=fW F (fB 5 s)) 5 _ h (hB.l5 hF (by omega)) (by omega) (enters_of Tryz.func242 (by kernel_rfl) rfl) (fun W1 z1=>Ex hF z1.m hi) (by omega) (by omega)
theorem vM (hF:FB F) (hL:GL F L) (HL:gL g fv F L q) (h:Mk g fv F s W) (hq:q≤s.p+1) (hB:Bd F 26 s) :
    Calls Tryz.prog 206 #[.pointer (some ⟨g,0,none⟩)] W fun e w'=>e=.returned (.tuple #[])∧Mz g fv F W (i6 F L s) w':=by
  obtain⟨T,hT⟩:∃T,T=i6 F L s:=⟨_,rfl⟩;rw[←hT];have HT:=aa hT;clear hT
  cases hb:gx F s
  ·cases hf:nV F s
   ·cases hc:oZ F s
    ·have HC1:=aa (fun W1 (h1:Mk g fv F (s) W1)=>kQ hF h1 hB.p hb);have HC2:=aa (fun W1 (h1:Mk g fv F (s) W1)=>sr hF h1 hB.p hf);have HC3:=aa (fun W1 (h1:Mk g fv F (s) W1)=>zv hF h1 hB.p hc);have HC4:=aa (fun W1 (h1:Mk g fv F (s) W1)=>fU hF h1 (hB.mono (by omega)));have H0:=aa (Mz.start h);clear h;go_enter Tryz.func206,Tryz.ntmps206
     go_wp2_with (first
       | (go_at_call 171;with_reducible refine(HC1.out _ H0.out.m).mono (Mz.k H0 fun hw1 H1=>?_))
       | (go_at_call 239;with_reducible refine(HC2.out _ H1.out.m).mono (Mz.k H1 fun hw2 H2=>?_))
       | (go_at_call 136;with_reducible refine(HC3.out _ H2.out.m).mono (Mz.k H2 fun hw3 H3=>?_))
       | (go_at_call 204;with_reducible refine(HC4.out _ H3.out.m).mono (Mz.k H3 fun hw4 H4=>?_))
       | fail)
     first|go_end0|refine az (aI rfl _ _ _) rfl ?_
     refine⟨rfl,?_⟩;rw[HT.out];unfold i6;rw[aB (by rw[hb];decide),aB (by rw[hf];decide),aB (by rw[hc];decide)];exact H4.out
    ·have HC1:=aa (fun W1 (h1:Mk g fv F (s) W1)=>kQ hF h1 hB.p hb);have HC2:=aa (fun W1 (h1:Mk g fv F (s) W1)=>sr hF h1 hB.p hf);have HC3:=aa (fun W1 (h1:Mk g fv F (s) W1)=>zu hF h1 hB.p hc);have HC4:=aa (fun W1 (h1:Mk g fv F (s) W1)=>Jm hF h1 hB);have H0:=aa (Mz.start h);clear h;go_enter Tryz.func206,Tryz.ntmps206
     go_wp2_with (first
       | (go_at_call 171;with_reducible refine(HC1.out _ H0.out.m).mono (Mz.k H0 fun hw1 H1=>?_))
       | (go_at_call 239;with_reducible refine(HC2.out _ H1.out.m).mono (Mz.k H1 fun hw2 H2=>?_))
       | (go_at_call 136;with_reducible refine(HC3.out _ H2.out.m).mono (Mz.k H2 fun hw3 H3=>?_))
       | (go_at_call 58;with_reducible refine(HC4.out _ H3.out.m).mono (Mz.k H3 fun hw4 H4=>?_))
       | fail)
     first|go_end0|refine az (aI rfl _ _ _) rfl ?_
     refine⟨rfl,?_⟩;rw[HT.out];unfold i6;rw[aB (by rw[hb];decide),aB (by rw[hf];decide),aE hc];exact H4.out
   ·have HC1:=aa (fun W1 (h1:Mk g fv F (s) W1)=>kQ hF h1 hB.p hb);have HC2:=aa (fun W1 (h1:Mk g fv F (s) W1)=>yY hF h1 hB.p hf);have HC3:=aa (fun W1 (h1:Mk g fv F (s) W1)=>Jn hF hL HL h1 hq hB hf);have H0:=aa (Mz.start h);clear h;go_enter Tryz.func206,Tryz.ntmps206
    go_wp2_with (first
      | (go_at_call 171;with_reducible refine(HC1.out _ H0.out.m).mono (Mz.k H0 fun hw1 H1=>?_))
      | (go_at_call 239;with_reducible refine(HC2.out _ H1.out.m).mono (Mz.k H1 fun hw2 H2=>?_))
      | (go_at_call 240;with_reducible refine(HC3.out _ H2.out.m).mono (Mz.k H2 fun hw3 H3=>?_))
      | fail)
    first|go_end0|refine az (aI rfl _ _ _) rfl ?_
    refine⟨rfl,?_⟩;rw[HT.out];unfold i6;rw[aB (by rw[hb];decide),aE hf];exact H3.out
  ·have HC1:=aa (fun W1 (h1:Mk g fv F (s) W1)=>qZ hF h1 hB.p hb);have HC2:=aa (fun W1 (h1:Mk g fv F (s) W1)=>uA hF hL HL h1 hq (hB.mono (by omega)) hb);have H0:=aa (Mz.start h);clear h;go_enter Tryz.func206,Tryz.ntmps206
   go_wp2_with (first
     | (go_at_call 171;with_reducible refine(HC1.out _ H0.out.m).mono (Mz.k H0 fun hw1 H1=>?_))
     | (go_at_call 238;with_reducible refine(HC2.out _ H1.out.m).mono (Mz.k H1 fun hw2 H2=>?_))
     | fail)
   first|go_end0|refine az (aI rfl _ _ _) rfl ?_
   refine⟨rfl,?_⟩;rw[HT.out];unfold i6;rw[aE hb];exact H2.out
theorem Jd (hF:FB F) (hL:GL F L) (HL:gL g fv F L q) (h:Mk g fv F s W) (hq:q≤s.p+1) (hB:Bd F 25 s) (hb0:Bk W bx 86 #[.pointer (some ⟨g,0,none⟩)]) :
    Calls Tryz.prog 205 #[.pointer (some ⟨bx,0,none⟩)] W fun e w'=>e=.returned (.tuple #[])∧Mz g fv F W (lm F L s) w':=by
  obtain⟨T,hT⟩:∃T,T=lm F L s:=⟨_,rfl⟩;rw[←hT];have HT:=aa hT;clear hT;have hg1:=gD (F:=F) (cs:=[33]) (by decide) hB.p;have hB1:=hB.gd hg1;have hq1:q≤(eB F [33] s).p+1:=aA hq (bE hg1.p);have hg2:=wS hL hB1.p;have hB2:=hB1.gd hg2;have hq2:q≤(i6 F L (eB F [33] s)).p+1:=aA hq1 (bE hg2.p);have HBX:=aa hb0;clear hb0;have b0:=HBX.out.cell 0;have HC1:=aa (fun W1 (h1:Mk g fv F (s) W1)=>lZ hF h1 hB.p [33] (by decide));have HC2:=aa (fun W1 (h1:Mk g fv F (eB F [33] s) W1)=>vM hF hL HL h1 hq1 (hB1.mono (by omega)));have H0:=aa (Mz.start h);clear h;go_enter Tryz.func205,Tryz.ntmps205
  go_wp2_with (first
    | (go_at_call 100;with_reducible refine(HC1.out _ H0.out.m).mono ?_
       rintro e hw1 ⟨rfl,hz⟩;have H1:=aa (H0.out.then hz);have b0:=(Bk.kt HBX.out H1.out.f.kt (by decide)).cell 0;clear hz)
    | (go_at_call 206;with_reducible refine(HC2.out _ H1.out.m).mono ?_
       rintro e hw2 ⟨rfl,hz⟩;have H2:=aa (H1.out.then hz);have b0:=(Bk.kt HBX.out H2.out.f.kt (by decide)).cell 0;clear hz)
    | fail)
  go_loopw [] (fun wr=>∃u:Ps,q≤u.p+1∧Bd F 26 u∧(eQ F.length (fun s=>if dO F [124] s=true then (i6 F L (dJ F (dL s)),true) else (s,false))) u=(eQ F.length (fun s=>if dO F [124] s=true then (i6 F L (dJ F (dL s)),true) else (s,false))) (i6 F L (eB F [33] s))∧Mz g fv F W u wr) (fun wr=>F.length-pOf g wr)
  case atStart=>exact⟨_,hq2,hB2,rfl,H2.out⟩
  case round=>
    obtain⟨u,hqu,hBu,hlu,hz⟩:=hrel;have U0:=aa hz;have HU:=aa hlu;have hup:=hz.m.pOf;have HP:=aa hup;clear hz hlu hup
    cases hb:dO F [124] u
    ·have HE:=aa (HU.out.symm.trans (LC.stepn (mX hL) hBu.p (t:=u) (by show (if _ then _ else _)=_;rw[aB (by rw[hb];decide)])));have NC1:=aa (fun W1 (h1:Mk g fv F (u) W1)=>fz hF h1 hBu.p [124] (by decide) hb);have b0:=(Bk.kt HBX.out U0.out.f.kt (by decide)).cell 0;go_wp2_with (
       (go_at_call 100;with_reducible refine(NC1.out _ U0.out.m).mono ?_
        rintro e nw1 ⟨rfl,hz⟩;have N1:=aa (U0.out.then hz);have b0:=(Bk.kt HBX.out N1.out.f.kt (by decide)).cell 0;clear hz))
     first|go_end0|refine az (aI rfl _ _ _) rfl ?_
     refine⟨rfl,?_⟩;rw[HT.out];unfold lm;rw[HE.out];exact N1.out
    ·have hy:=LC.y ((mX hL) u hBu.p) (t:=i6 F L (dJ F (dL u))) (by show (if _ then _ else _)=_;rw[aE hb]);have HE:=aa ((LC.stepy (mX hL) hBu.p (t:=i6 F L (dJ F (dL u))) (by show (if _ then _ else _)=_;rw[aE hb])).symm.trans HU.out);have hlt:=ek hb (by decide);have hn1:=hBu.next hlt (by omega);have hg4:=dZ (F:=F) hn1.p;have hB4:=hn1.gd hg4;have hq4:q≤(dJ F (dL u)).p+1:=aA hqu (bE (aA (bY _) hg4.p));have YC1:=aa (fun W1 (h1:Mk g fv F (u) W1)=>fR hF h1 hBu.p [124] (by decide) hb);have YC2:=aa (fun W1 (h1:Mk g fv F (dL u) W1)=>fI hF h1 hn1.p);have YC3:=aa (fun W1 (h1:Mk g fv F (dJ F (dL u)) W1)=>vM hF hL HL h1 hq4 (hB4.mono (by omega)));have b0:=(Bk.kt HBX.out U0.out.f.kt (by decide)).cell 0
     go_wp2_with (first
       | (go_at_call 100;with_reducible refine(YC1.out _ U0.out.m).mono ?_
          rintro e yw1 ⟨rfl,hz⟩;have Y1:=aa (U0.out.then hz);have b0:=(Bk.kt HBX.out Y1.out.f.kt (by decide)).cell 0;clear hz)
       | (go_at_call 138;with_reducible refine(YC2.out _ Y1.out.m).mono ?_
          rintro e yw2 ⟨rfl,hz⟩;have Y2:=aa (Y1.out.then hz);have b0:=(Bk.kt HBX.out Y2.out.f.kt (by decide)).cell 0;clear hz)
       | (go_at_call 206;with_reducible refine(YC3.out _ Y2.out.m).mono ?_
          rintro e yw3 ⟨rfl,hz⟩;have Y3:=aa (Y2.out.then hz);have b0:=(Bk.kt HBX.out Y3.out.f.kt (by decide)).cell 0;clear hz)
       | fail)
     refine⟨⟨_,aA hqu (bE (bj hy.2)),hBu.gd hy.1,HE.out,Y3.out⟩,?_⟩;rw[Y3.out.m.pOf,HP.out]
     have:=hy.2
     have:=hy.1.N
     omega
theorem Fz (hF:FB F) (hL:GL F L) (HL:gL g fv F L q) (h:Mk g fv F s W) (hq:q≤s.p+1) (hB:Bd F 24 s) :
    Calls Tryz.prog 172 #[.pointer (some ⟨g,0,none⟩)] W fun e w'=>e=.returned (.tuple #[])∧Mz g fv F W (kq F L s) w':=by
  have hx:∀W0,Mk g fv F s W0→∀bx,Bk W0 bx 86 #[.pointer (some ⟨g,0,none⟩)]→Calls Tryz.prog 58 #[.pointer (some ⟨g,0,none⟩),.int .i64 4,.func (.func 205) #[] #[.pointer (some ⟨bx,0,none⟩)]] W0 fun e w'=>e=.returned (.tuple #[])∧Mz g fv F W0 (dN 4 (lm F L) s) w':=fun W0 h0 bx hbx=>by
    have hi:=hB.inn 4;have hg:=uh hL hi.p;have hn:=hF.n;have h1:=hg.l;have h2:=hg.N;rw[oP] at h1;exact rI (t:=lm F L (fB 4 s)) 4 _ #[] #[.pointer (some ⟨bx,0,none⟩)] h0 (hB.l5 hF (by omega)) (by omega) (enters_of Tryz.func205 (by kernel_rfl) rfl) (fun W1 h1=>Jd hF hL HL h1.m hq hi (h1.box hbx (by decide))) (by omega) (by omega)
  have HX:=aa hx;have H0:=aa (Mz.start h);clear hx;obtain⟨T,hT⟩:∃T,T=kq F L s:=⟨_,rfl⟩;rw[←hT];have HT:=aa hT;clear hT
  cases hb:fQ F s
  ·have HC1:=aa (fun W1 (h1:Mk g fv F s W1)=>mq hF h1 hB.p hb);have HC2:=aa (fun W1 (h1:Mk g fv F s W1)=>fU hF h1 (hB.mono (by omega)));clear h;go_enter Tryz.func172,Tryz.ntmps172;go_upto_region 1 with fail
   refine jX fun W0 hb0 k0 hs0=>?_
   have HBX:=aa k0;have b0:=HBX.out.cell 0;have H1:=aa (H0.out.next hb0);have HZ:=aa (Mz.start H1.out.m);clear hb0 k0 hs0
   go_wp2_with (first
     | (go_at_call 101;with_reducible refine(HC1.out _ HZ.out.m).mono ?_
        rintro e w1 ⟨rfl,hz⟩;have H2:=aa (HZ.out.then hz);have b0:=(Bk.kt HBX.out H2.out.f.kt (by decide)).cell 0;clear hz)
     | (go_at_call 204;with_reducible refine(HC2.out _ H2.out.m).mono (Mz.k H2 fun w2 H3=>?_))
     | fail)
   first|go_end0|refine az (aI rfl _ _ _) rfl ?_
   refine⟨rfl,?_⟩;rw[HT.out];unfold kq;rw[aB (by rw[hb];decide)];exact H1.out.then H3.out
  ·have HC1:=aa (fun W1 (h1:Mk g fv F s W1)=>ml hF h1 hB.p hb);have HC2:=aa (fun W1 (h1:Mk g fv F s W1)=>fU hF h1 (hB.mono (by omega)));clear h;go_enter Tryz.func172,Tryz.ntmps172;go_upto_region 1 with fail
   refine jX fun W0 hb0 k0 hs0=>?_
   have HBX:=aa k0;have b0:=HBX.out.cell 0;have H1:=aa (H0.out.next hb0);have HZ:=aa (Mz.start H1.out.m);clear hb0 k0 hs0
   go_wp2_with (first
     | (go_at_call 101;with_reducible refine(HC1.out _ HZ.out.m).mono ?_
        rintro e w1 ⟨rfl,hz⟩;have H2:=aa (HZ.out.then hz);have b0:=(Bk.kt HBX.out H2.out.f.kt (by decide)).cell 0;clear hz)
     | (go_at_call 58;refine(HX.out _ H2.out.m _ (Bk.kt HBX.out H2.out.f.kt (by decide))).mono ?_;rintro e w2 ⟨rfl,hz⟩;have H3:=aa (H2.out.then hz);clear hz)
     | fail)
   first|go_end0|refine az (aI rfl _ _ _) rfl ?_
   refine⟨rfl,?_⟩;rw[HT.out];unfold kq;rw[aE hb];exact H1.out.then H3.out
theorem Kg (hF:FB F) (hL:GL F L) (HL:gL g fv F L q) (h:Mk g fv F s W) (hq:q≤s.p+1) (hB:Bd F 24 s) :
    Calls Tryz.prog 137 #[.pointer (some ⟨g,0,none⟩)] W fun e w'=>e=.returned (.tuple #[])∧Mz g fv F W (ff F L s) w':=by
  obtain⟨T,hT⟩:∃T,T=ff F L s:=⟨_,rfl⟩;rw[←hT];have HT:=aa hT;clear hT;have hg2:=wR hL hB.p;have hB2:=hB.gd hg2;have hq2:q≤(kq F L s).p+1:=aA hq (bE hg2.p);have HC1:=aa (fun W1 (h1:Mk g fv F (s) W1)=>Fz hF hL HL h1 hq hB);have H0:=aa (Mz.start h);clear h;go_enter Tryz.func137,Tryz.ntmps137;go_wp2_with (
    (go_at_call 172;with_reducible refine(HC1.out _ H0.out.m).mono (Mz.k H0 fun hw1 H1=>?_)))
  go_loopw [] (fun wr=>∃u:Ps,q≤u.p+1∧Bd F 26 u∧(eQ F.length (fun s=>if dO F [97,111] s=true then (kq F L (dJ F (dL s)),true) else (s,false))) u=(eQ F.length (fun s=>if dO F [97,111] s=true then (kq F L (dJ F (dL s)),true) else (s,false))) (kq F L s)∧Mz g fv F W u wr) (fun wr=>F.length-pOf g wr)
  case atStart=>exact⟨_,hq2,hB2,rfl,H1.out⟩
  case round=>
    obtain⟨u,hqu,hBu,hlu,hz⟩:=hrel;have U0:=aa hz;have HU:=aa hlu;have hup:=hz.m.pOf;have HP:=aa hup;clear hz hlu hup
    cases hb:dO F [97,111] u
    ·have HE:=aa (HU.out.symm.trans (LC.stepn (uF hL) hBu.p (t:=u) (by show (if _ then _ else _)=_;rw[aB (by rw[hb];decide)])));have NC1:=aa (fun W1 (h1:Mk g fv F (u) W1)=>fz hF h1 hBu.p [97,111] (by decide) hb);go_wp2_with (
       (go_at_call 100;with_reducible refine(NC1.out _ U0.out.m).mono (Mz.k U0 fun nw1 N1=>?_)))
     first|go_end0|refine az (aI rfl _ _ _) rfl ?_
     refine⟨rfl,?_⟩;rw[HT.out];unfold ff;rw[HE.out];exact N1.out
    ·have hy:=LC.y ((uF hL) u hBu.p) (t:=kq F L (dJ F (dL u))) (by show (if _ then _ else _)=_;rw[aE hb]);have HE:=aa ((LC.stepy (uF hL) hBu.p (t:=kq F L (dJ F (dL u))) (by show (if _ then _ else _)=_;rw[aE hb])).symm.trans HU.out);have hlt:=ek hb (by decide);have hn1:=hBu.next hlt (by omega);have hg4:=dZ (F:=F) hn1.p;have hB4:=hn1.gd hg4;have hq4:q≤(dJ F (dL u)).p+1:=aA hqu (bE (aA (bY _) hg4.p));have YC1:=aa (fun W1 (h1:Mk g fv F (u) W1)=>fR hF h1 hBu.p [97,111] (by decide) hb);have YC2:=aa (fun W1 (h1:Mk g fv F (dL u) W1)=>fI hF h1 hn1.p);have YC3:=aa (fun W1 (h1:Mk g fv F (dJ F (dL u)) W1)=>Fz hF hL HL h1 hq4 (hB4.mono (by omega)))
     go_wp2_with (first
       | (go_at_call 100;with_reducible refine(YC1.out _ U0.out.m).mono (Mz.k U0 fun yw1 Y1=>?_))
       | (go_at_call 138;with_reducible refine(YC2.out _ Y1.out.m).mono (Mz.k Y1 fun yw2 Y2=>?_))
       | (go_at_call 172;with_reducible refine(YC3.out _ Y2.out.m).mono (Mz.k Y2 fun yw3 Y3=>?_))
       | fail)
     refine⟨⟨_,aA hqu (bE (bj hy.2)),hBu.gd hy.1,HE.out,Y3.out⟩,?_⟩;rw[Y3.out.m.pOf,HP.out]
     have:=hy.2
     have:=hy.1.N
     omega
end Go.Proofs.YtcagfamdoaoimaaGreatDoor
