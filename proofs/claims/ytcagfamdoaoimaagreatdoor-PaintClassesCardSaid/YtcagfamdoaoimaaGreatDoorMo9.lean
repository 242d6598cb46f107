/- The program's machine: a byte comes (modes.Feed): the stack is what rStep says. -/
import Derived.Test.YtcagfamdoaoimaaGreatDoorMo5
import Derived.Test.YtcagfamdoaoimaaGreatDoorPl6
set_option linter.unusedVariables false
set_option linter.unusedSimpArgs false
set_option maxRecDepth 100000
set_option maxHeartbeats 8000000
namespace Go.Proofs.YtcagfamdoaoimaaGreatDoor
open Go.RowKit
variable {f':Bool} {n:Nat} {st':ff} {w0 w' w2:World} (B b:Nat) (r:ff) (p q:Int) (st:ff) (d:UInt8) (m:Int) (c y:UInt8) (f:Bool) (l:List UInt8) (at_ k:Int) (A:Addr) (w:World)
theorem eH.top {w:World} {B b:Nat} {st:ff} {f:Bool} {at_ p m:Int} {c:UInt8} (h:eH w B b ((c,p)::st) f at_) (hn:st.length=n) (hm:m=eG c) :
    ∃g cap,w.cell? ⟨b,0,none⟩=some (.slice (some ⟨g,0,none⟩) (n+1) cap)∧w.cell? ⟨g,n*2,none⟩=some (.int .i64 m)∧n+1≤cap∧cap≤9223372036854775807:=by
  subst hn hm;obtain⟨h1,g,cap,h2,h3⟩:=h;have hle:=ic h3;exact⟨g,cap,by rw[h2.cell];rfl,eE h3 _ _ (by rw[gD,aY (by rw[ix];omega)];simp[ix]),hle.2.1,by have:=hle.2.2.1;unfold maxLen at this;omega⟩
theorem qO {w:World} {B b:Nat} {st:ff} {f:Bool} {at_:Int} (h:eH w' B b st' f' at_) (hb0:BM B w w0) (hb:BM B w0 w') (hs:st'=st) (hf:f'=f) :
    Mo w B b (.tuple #[]) st f (at_+1) (.returned (.tuple #[])) (w'.setCell ⟨b,2,none⟩ (.int .i64 (at_+1))):=by
  subst hs hf;exact⟨rfl,h.setAt _,BM.setCell (hb0.trans hb) h _⟩
theorem AP {w:World} {B b:Nat} {st:ff} {f:Bool} {at_:Int} (h:eH w2 B b st' f' at_) (hb0:BM B w w0) (hb:BM B w0 w') (hb2:BM B w' w2) (hs:st'=st) (hf:f'=f) :
    Mo w B b (.tuple #[]) st f (at_+1) (.returned (.tuple #[])) (w2.setCell ⟨b,2,none⟩ (.int .i64 (at_+1))):=qO h (hb0.trans hb) hb2 hs hf
theorem LW (h:eH w B b ((c,p)::r) f at_) (hl:r.length≤99980) (hm:m=eG c) (h12:(m==12)=false) (h3:(m==3)=false) (h11:(m==11)=false) (ht:c≠84→r≠[]) (hc:c=84∨c=67∨c=80∨c=65∨c=82∨c=68∨c=73∨c=86∨c=88∨c=83∨c=35∨c=66) (ha0:0≤at_) (ha1:at_≤1000000000) :
    lP 145 y w B b (.tuple #[]) (dK ((c,p)::r) f c y at_).1 (dK ((c,p)::r) f c y at_).2 (at_+1):=by
  obtain⟨n,hn⟩:∃n,r.length=n:=⟨_,rfl⟩;obtain⟨g,cap,t0,t1,t2,t3⟩:=h.top (n:=n) (m:=m) hn hm;have HM:=aa h;have HL:=aa hl;have HN:=aa hn;clear h hl hn;have z0:(((n:Int)+1)==0)=false:=by rw[ay];omega
  have HT:=aa (ac hm (ac ht hc));clear hm ht hc;go_enter Tryz.func145,Tryz.ntmps145;go_step3;go_wp2;go_step3;go_wp2;refine de 1 ?_;rw[dk];go_wp2_with fail;go_quiet (fail)
  go_wp2_with (first
    | (go_at_call 183;refine(sR B b r c p m y f at_ _ HT.out.1 (HM.out.drewN _) (by have h1:=HN.out;have h2:=HL.out;omega) HT.out.2.1 HT.out.2.2).mono ?_;rintro e w1 ⟨rfl,hm1,hb1⟩;obtain⟨x0,x1,x2,x3,x4⟩:=hm1.cells;have HM1:=aa (ac hm1 hb1);clear hm1 hb1))
  rw[bc];go_end0;exact qO HM1.out.1 (BM.drewN (BM.refl _ _) _) HM1.out.2 rfl rfl
theorem GN (h:eH w B b ((76,p)::(d,q)::r) f at_) (hl:r.length≤99970) (ha0:0≤at_) (ha1:at_≤1000000000) :
    lP 145 40 w B b (.tuple #[]) ((79,p)::(d,q)::r) true (at_+1):=by
  obtain⟨n,hn⟩:∃n,((d,q)::r:ff).length=n:=⟨_,rfl⟩;obtain⟨g,cap,t0,t1,t2,t3⟩:=h.top (n:=n) (m:=12) hn rfl;have HM:=aa h;have HL:=aa hl;have HN:=aa hn;clear h hl hn;have z0:(((n:Int)+1)==0)=false:=by rw[ay];omega
  go_enter Tryz.func145,Tryz.ntmps145;go_step3;go_wp2;go_step3;go_wp2;refine de 1 ?_;rw[dk];go_wp2_with fail;go_quiet (fail)
  go_wp2_with (first
    | (go_at_call 180;refine(Ni B b r p q d f at_ _ (HM.out.drewN _) (by have h2:=HL.out;omega)).mono ?_;rintro e w1 ⟨rfl,hm1,hb1⟩;obtain⟨x0,x1,x2,x3,x4⟩:=hm1.cells;have HM1:=aa (ac hm1 hb1);clear hm1 hb1))
  rw[bc];go_end0;exact qO HM1.out.1 (BM.drewN (BM.refl _ _) _) HM1.out.2 rfl rfl
theorem GR (h:eH w B b ((76,p)::(d,q)::r) f at_) (hl:r.length≤99970) (ha0:0≤at_) (ha1:at_≤1000000000) :
    lP 145 36 w B b (.tuple #[]) ((d,q)::r) f (at_+1):=by
  obtain⟨n,hn⟩:∃n,((d,q)::r:ff).length=n:=⟨_,rfl⟩;obtain⟨g,cap,t0,t1,t2,t3⟩:=h.top (n:=n) (m:=12) hn rfl;have HM:=aa h;have HL:=aa hl;have HN:=aa hn;clear h hl hn;have z0:(((n:Int)+1)==0)=false:=by rw[ay];omega
  go_enter Tryz.func145,Tryz.ntmps145;go_step3;go_wp2;go_step3;go_wp2;refine de 1 ?_;rw[dk];go_wp2_with fail;go_quiet (fail)
  go_wp2_with (first
    | (go_at_call 180;refine(Nj B b r p q d f at_ _ (HM.out.drewN _) (by have h2:=HL.out;omega)).mono ?_;rintro e w1 ⟨rfl,hm1,hb1⟩;obtain⟨x0,x1,x2,x3,x4⟩:=hm1.cells;have HM1:=aa (ac hm1 hb1);clear hm1 hb1))
  rw[bc];go_end0;exact qO HM1.out.1 (BM.drewN (BM.refl _ _) _) HM1.out.2 rfl rfl
theorem zc (hd:5=eG d) (f:Bool) (at_:Int) (w:World) (h:eH w B b ((76,p)::(d,q)::r) f at_) (hl:r.length≤99970) (ha0:0≤at_) (ha1:at_≤1000000000) :
    lP 145 123 w B b (.tuple #[]) ((73,p)::(d,q)::r) f (at_+1):=by
  obtain⟨n,hn⟩:∃n,((d,q)::r:ff).length=n:=⟨_,rfl⟩;obtain⟨g,cap,t0,t1,t2,t3⟩:=h.top (n:=n) (m:=12) hn rfl;have HM:=aa h;have HL:=aa hl;have HN:=aa hn;clear h hl hn;have z0:(((n:Int)+1)==0)=false:=by rw[ay];omega
  have Hd:=aa hd;clear hd;go_enter Tryz.func145,Tryz.ntmps145;go_step3;go_wp2;go_step3;go_wp2;refine de 1 ?_;rw[dk];go_wp2_with fail;go_quiet (fail)
  go_wp2_with (first
    | (go_at_call 180;refine(Hb B b r p q d 5 f at_ _ (HM.out.drewN _) (by have h2:=HL.out;omega) Hd.out rfl).mono ?_;rintro e w1 ⟨rfl,hm1,hb1⟩;obtain⟨x0,x1,x2,x3,x4⟩:=hm1.cells;have HM1:=aa (ac hm1 hb1);clear hm1 hb1))
  rw[bc];go_end0;exact qO HM1.out.1 (BM.drewN (BM.refl _ _) _) HM1.out.2 rfl rfl
theorem za (hd:8=eG d) (f:Bool) (at_:Int) (w:World) (h:eH w B b ((76,p)::(d,q)::r) f at_) (hl:r.length≤99970) (ha0:0≤at_) (ha1:at_≤1000000000) :
    lP 145 123 w B b (.tuple #[]) ((73,p)::(d,q)::r) f (at_+1):=by
  obtain⟨n,hn⟩:∃n,((d,q)::r:ff).length=n:=⟨_,rfl⟩;obtain⟨g,cap,t0,t1,t2,t3⟩:=h.top (n:=n) (m:=12) hn rfl;have HM:=aa h;have HL:=aa hl;have HN:=aa hn;clear h hl hn;have z0:(((n:Int)+1)==0)=false:=by rw[ay];omega
  have Hd:=aa hd;clear hd;go_enter Tryz.func145,Tryz.ntmps145;go_step3;go_wp2;go_step3;go_wp2;refine de 1 ?_;rw[dk];go_wp2_with fail;go_quiet (fail)
  go_wp2_with (first
    | (go_at_call 180;refine(Ha B b r p q d 8 f at_ _ (HM.out.drewN _) (by have h2:=HL.out;omega) Hd.out rfl).mono ?_;rintro e w1 ⟨rfl,hm1,hb1⟩;obtain⟨x0,x1,x2,x3,x4⟩:=hm1.cells;have HM1:=aa (ac hm1 hb1);clear hm1 hb1))
  rw[bc];go_end0;exact qO HM1.out.1 (BM.drewN (BM.refl _ _) _) HM1.out.2 rfl rfl
theorem yZ (hd:m=eG d) (hm5:(m==5)=false) (hm8:(m==8)=false) (f:Bool) (at_:Int) (w:World) (h:eH w B b ((76,p)::(d,q)::r) f at_) (hl:r.length≤99970) (ha0:0≤at_) (ha1:at_≤1000000000) :
    lP 145 123 w B b (.tuple #[]) ((86,p)::(d,q)::r) f (at_+1):=by
  obtain⟨n,hn⟩:∃n,((d,q)::r:ff).length=n:=⟨_,rfl⟩;obtain⟨g,cap,t0,t1,t2,t3⟩:=h.top (n:=n) (m:=12) hn rfl;have HM:=aa h;have HL:=aa hl;have HN:=aa hn;clear h hl hn;have z0:(((n:Int)+1)==0)=false:=by rw[ay];omega
  have Hd:=aa hd;clear hd;go_enter Tryz.func145,Tryz.ntmps145;go_step3;go_wp2;go_step3;go_wp2;refine de 1 ?_;rw[dk];go_wp2_with fail;go_quiet (fail)
  go_wp2_with (first
    | (go_at_call 180;refine(G9 B b r p q d m f at_ _ (HM.out.drewN _) (by have h2:=HL.out;omega) Hd.out hm5 hm8).mono ?_;rintro e w1 ⟨rfl,hm1,hb1⟩;obtain⟨x0,x1,x2,x3,x4⟩:=hm1.cells;have HM1:=aa (ac hm1 hb1);clear hm1 hb1))
  rw[bc];go_end0;exact qO HM1.out.1 (BM.drewN (BM.refl _ _) _) HM1.out.2 rfl rfl
theorem JR (hc40:((c.toNat:Int)==40)=false) (hc123:((c.toNat:Int)==123)=false) (hc36:((c.toNat:Int)==36)=false) (hd:m=eG d) (h12:(m==12)=false) (h3:(m==3)=false) (h11:(m==11)=false) (ht:d≠84→r≠[]) (hc:d=84∨d=67∨d=80∨d=65∨d=82∨d=68∨d=73∨d=86∨d=88∨d=83∨d=35∨d=66) (f:Bool) (at_:Int) (w:World) (h:eH w B b ((76,p)::(d,q)::r) f at_) (hl:r.length≤99970) (ha0:0≤at_) (ha1:at_≤1000000000) :
    lP 145 c w B b (.tuple #[]) (dK ((d,q)::r) f d c at_).1 (dK ((d,q)::r) f d c at_).2 (at_+1):=by
  obtain⟨n,hn⟩:∃n,((d,q)::r:ff).length=n:=⟨_,rfl⟩;obtain⟨g,cap,t0,t1,t2,t3⟩:=h.top (n:=n) (m:=12) hn rfl;have HM:=aa h;have HL:=aa hl;have HN:=aa hn;clear h hl hn;have z0:(((n:Int)+1)==0)=false:=by rw[ay];omega
  have Hd:=aa hd;have HT:=aa (ac ht hc);clear hd ht hc;obtain⟨k,hk⟩:∃k,r.length=k:=⟨_,rfl⟩;have HK:=aa hk;clear hk;go_enter Tryz.func145,Tryz.ntmps145;go_step3;go_wp2;go_step3;go_wp2;refine de 2 ?_;rw[dk];go_wp2_with fail;go_quiet (fail)
  go_wp2_with (first
    | (go_at_call 180;refine(ND B b r p q d c f at_ _ (HM.out.drewN _) (by have h2:=HL.out;omega) hc40 hc123 hc36).mono ?_;rintro e w1 ⟨rfl,hm1,hb1⟩;obtain⟨x0,x1,x2,x3,x4⟩:=hm1.cells;obtain⟨g1,cap1,s0,s1,s2,s3⟩:=hm1.top (n:=k) (m:=m) HK.out Hd.out;have HM1:=aa (ac hm1 hb1);clear hm1 hb1))
  rw[dk];go_wp2_with fail;go_quiet (fail)
  go_wp2_with (first
    | (go_at_call 183;refine(sR B b r d q m c f at_ _ Hd.out (HM1.out.1.drewN _) (by have h2:=HL.out;omega) HT.out.1 HT.out.2).mono ?_;rintro e w2 ⟨rfl,hm2,hb2⟩;obtain⟨x0,x1,x2,x3,x4⟩:=hm2.cells;have HM2:=aa (ac hm2 hb2);clear hm2 hb2))
  rw[bc];go_end0;exact AP HM2.out.1 (BM.drewN (BM.refl _ _) _) HM1.out.2 ((BM.drewN (BM.refl _ _) _).trans HM2.out.2) rfl rfl
theorem GM (h:eH w B b ((79,p)::r) f at_) (hl:r.length≤99970) (ht:r≠[]) (ha0:0≤at_) (ha1:at_≤1000000000) :
    lP 145 40 w B b (.tuple #[]) ((65,p)::r) false (at_+1):=by
  obtain⟨n,hn⟩:∃n,r.length=n:=⟨_,rfl⟩;obtain⟨g,cap,t0,t1,t2,t3⟩:=h.top (n:=n) (m:=3) hn rfl;have HM:=aa h;have HL:=aa hl;have HN:=aa hn;clear h hl hn;have z0:(((n:Int)+1)==0)=false:=by rw[ay];omega
  have Ht:=aa ht;clear ht;go_enter Tryz.func145,Tryz.ntmps145;go_step3;go_wp2;go_step3;go_wp2;refine de 1 ?_;rw[dk];go_wp2_with fail;go_quiet (fail)
  go_wp2_with (first
    | (go_at_call 181;refine(kz B b _ _ _ _ _ 65 9 _ rfl (HM.out.drewN _)).mono ?_;rintro e w1 ⟨rfl,hm1,hb1⟩;obtain⟨x0,x1,x2,x3,x4⟩:=hm1.cells;have HM1:=aa (ac hm1 hb1);clear hm1 hb1))
  rw[bc];go_end0;exact qO (HM1.out.1.setFresh _) (BM.drewN (BM.refl _ _) _) (BM.setCell HM1.out.2 HM1.out.1 _) rfl rfl
theorem GT (h:eH w B b ((69,p)::r) f at_) (hl:r.length≤99970) (ht:r≠[]) (ha0:0≤at_) (ha1:at_≤1000000000) :
    lP 145 41 w B b (.tuple #[]) r f (at_+1):=by
  obtain⟨n,hn⟩:∃n,r.length=n:=⟨_,rfl⟩;obtain⟨g,cap,t0,t1,t2,t3⟩:=h.top (n:=n) (m:=11) hn rfl;have HM:=aa h;have HL:=aa hl;have HN:=aa hn;clear h hl hn;have z0:(((n:Int)+1)==0)=false:=by rw[ay];omega
  have Ht:=aa ht;clear ht;go_enter Tryz.func145,Tryz.ntmps145;go_step3;go_wp2;go_step3;go_wp2;refine de 1 ?_;rw[dk];go_wp2_with fail;go_quiet (fail)
  go_wp2_with (first
    | (go_at_call 182;refine(jb B b _ _ _ _ _ _ (HM.out.drewN _) Ht.out).mono ?_;rintro e w1 ⟨rfl,hm1,hb1⟩;obtain⟨x0,x1,x2,x3,x4⟩:=hm1.cells;have HM1:=aa (ac hm1 hb1);clear hm1 hb1))
  rw[bc];go_end0;exact qO HM1.out.1 (BM.drewN (BM.refl _ _) _) HM1.out.2 rfl rfl
theorem JQ (hc40:((c.toNat:Int)==40)=false) (f:Bool) (at_:Int) (w:World) (h:eH w B b ((79,p)::r) f at_) (hl:r.length≤99970) (ht:r≠[]) (ha0:0≤at_) (ha1:at_≤1000000000) :
    lP 145 c w B b (.tuple #[]) (dK ((67,p)::r) f 67 c at_).1 (dK ((67,p)::r) f 67 c at_).2 (at_+1):=by
  obtain⟨n,hn⟩:∃n,r.length=n:=⟨_,rfl⟩;obtain⟨g,cap,t0,t1,t2,t3⟩:=h.top (n:=n) (m:=3) hn rfl;have HM:=aa h;have HL:=aa hl;have HN:=aa hn;clear h hl hn;have z0:(((n:Int)+1)==0)=false:=by rw[ay];omega
  have Ht:=aa ht;clear ht;go_enter Tryz.func145,Tryz.ntmps145;go_step3;go_wp2;go_step3;go_wp2;refine de 2 ?_;rw[dk];go_wp2_with fail;go_quiet (fail)
  go_wp2_with (first
    | (go_at_call 181;refine(kz B b _ _ _ _ _ 67 1 _ rfl (HM.out.drewN _)).mono ?_;rintro e w1 ⟨rfl,hm1,hb1⟩;obtain⟨x0,x1,x2,x3,x4⟩:=hm1.cells;obtain⟨g1,cap1,s0,s1,s2,s3⟩:=hm1.top (n:=n) (m:=1) HN.out rfl;have HM1:=aa (ac hm1 hb1);clear hm1 hb1))
  rw[dk];go_wp2_with fail;go_quiet (fail)
  go_wp2_with (first
    | (go_at_call 183;refine(sR B b r 67 p 1 c f at_ _ rfl (HM1.out.1.drewN _) (by have h1:=HN.out;have h2:=HL.out;omega) (fun _=>Ht.out) (by decide)).mono ?_;rintro e w2 ⟨rfl,hm2,hb2⟩;obtain⟨x0,x1,x2,x3,x4⟩:=hm2.cells;have HM2:=aa (ac hm2 hb2);clear hm2 hb2))
  rw[bc];go_end0;exact AP HM2.out.1 (BM.drewN (BM.refl _ _) _) HM1.out.2 ((BM.drewN (BM.refl _ _) _).trans HM2.out.2) rfl rfl
theorem JS (hc41:((c.toNat:Int)==41)=false) (f:Bool) (at_:Int) (w:World) (h:eH w B b ((69,p)::r) f at_) (hl:r.length≤99970) (ht:r≠[]) (ha0:0≤at_) (ha1:at_≤1000000000) :
    lP 145 c w B b (.tuple #[]) (dK ((65,p)::r) f 65 c at_).1 (dK ((65,p)::r) f 65 c at_).2 (at_+1):=by
  obtain⟨n,hn⟩:∃n,r.length=n:=⟨_,rfl⟩;obtain⟨g,cap,t0,t1,t2,t3⟩:=h.top (n:=n) (m:=11) hn rfl;have HM:=aa h;have HL:=aa hl;have HN:=aa hn;clear h hl hn;have z0:(((n:Int)+1)==0)=false:=by rw[ay];omega
  have Ht:=aa ht;clear ht;go_enter Tryz.func145,Tryz.ntmps145;go_step3;go_wp2;go_step3;go_wp2;refine de 2 ?_;rw[dk];go_wp2_with fail;go_quiet (fail)
  go_wp2_with (first
    | (go_at_call 181;refine(kz B b _ _ _ _ _ 65 9 _ rfl (HM.out.drewN _)).mono ?_;rintro e w1 ⟨rfl,hm1,hb1⟩;obtain⟨x0,x1,x2,x3,x4⟩:=hm1.cells;obtain⟨g1,cap1,s0,s1,s2,s3⟩:=hm1.top (n:=n) (m:=9) HN.out rfl;have HM1:=aa (ac hm1 hb1);clear hm1 hb1))
  rw[dk];go_wp2_with fail;go_quiet (fail)
  go_wp2_with (first
    | (go_at_call 183;refine(sR B b r 65 p 9 c f at_ _ rfl (HM1.out.1.drewN _) (by have h1:=HN.out;have h2:=HL.out;omega) (fun _=>Ht.out) (by decide)).mono ?_;rintro e w2 ⟨rfl,hm2,hb2⟩;obtain⟨x0,x1,x2,x3,x4⟩:=hm2.cells;have HM2:=aa (ac hm2 hb2);clear hm2 hb2))
  rw[bc];go_end0;exact AP HM2.out.1 (BM.drewN (BM.refl _ _) _) HM1.out.2 ((BM.drewN (BM.refl _ _) _).trans HM2.out.2) rfl rfl
theorem uY (h:uK c=true) (h1:c≠76) (h2:c≠79) (h3:c≠69):c=84∨c=67∨c=80∨c=65∨c=82∨c=68∨c=73∨c=86∨c=88∨c=83∨c=35∨c=66:=by
  have:=fh (fun c => !uK c||c==76||c==79||c==69||c==84||c==67||c==80||c==65||c==82||c==68||c==73||c==86||c==88||c==83||c==35||c==66) (by decide +kernel) c
  simp only[h,Bool.not_true,Bool.false_or,du,aN,h1,h2,h3,false_or] at this;simpa [or_assoc] using this
theorem ma (l:UInt8) (hk:eG l=k) (hl:(List.range 256).all (fun n=>eG (UInt8.ofNat n)!=eG l||UInt8.ofNat n==l)=true) (h:c≠l):(eG c==k)=false:=by
  have:=fh (fun c=>eG c != eG l||c==l) hl c
  rw[←hk];simp[h] at this;simpa using this
theorem Bh (h:eH w B b st f at_) (hbot:mE st) (hv:oz st) (hl:st.length≤99960) (ha0:0≤at_) (ha1:at_≤1000000000) :
    lP 145 y w B b (.tuple #[]) (ez st f y at_).1 (ez st f y at_).2 (at_+1):=by
  match st,hbot,hv with
  | (c,p)::r,hbot,hv=>
    simp only[aQ] at hl;have hne:c≠84→r≠[]:=fun hc=>(hbot.tail hc).ne
    rcases aF (c=76) with rfl|h76
    ·match r,hbot,hv with
     | [],hbot,_=>exact absurd hbot.single (by decide)
     | (d,q)::r2,hbot,hv=>
       simp only[aQ] at hl;have hd:=hv.2 (d,q) (by simp);have hdv:=sX d hd;obtain⟨d1,d2,d3⟩:=F5 d hd;have e76:d≠76:=fun e=>d3 (by rw[e];rfl)
       have e79:d≠79:=fun e=>d1 (by rw[e];rfl)
       have e69:d≠69:=fun e=>d2 (by rw[e];rfl)
       have hne2:d≠84→r2≠[]:=fun hc=>((hbot.tail (by decide)).tail hc).ne
       rcases aF (y=40) with rfl|hy40
       ·exact GN B b r2 p q d f at_ w h (by omega) ha0 ha1
       rcases aF (y=36) with rfl|hy36
       ·have e:ez ((76,p)::(d,q)::r2) f 36 at_=((d,q)::r2,f):=by simp[ez]
        rw[e];exact GR B b r2 p q d f at_ w h (by omega) ha0 ha1
       have n40:y.toNat≠40:=nn hy40;have n36:y.toNat≠36:=nn hy36;rcases aF (y=123) with rfl|hy123
       ·rcases aF (d=68) with rfl|hd68
        ·exact zc B b r2 p q 68 rfl f at_ w h (by omega) ha0 ha1
        rcases aF (d=73) with rfl|hd73
        ·exact za B b r2 p q 73 rfl f at_ w h (by omega) ha0 ha1
        have n1:d.toNat≠68:=nn hd68;have n2:d.toNat≠73:=nn hd73;have e:ez ((76,p)::(d,q)::r2) f 123 at_=((86,p)::(d,q)::r2,f):=by simp[ez,n1,n2]
        rw[e];exact yZ B b r2 p q d (eG d) rfl (ma d 5 68 rfl (by decide +kernel) hd68) (ma d 8 73 rfl (by decide +kernel) hd73) f at_ w h (by omega) ha0 ha1
       have n123:y.toNat≠123:=nn hy123;have e:ez ((76,p)::(d,q)::r2) f y at_=dK ((d,q)::r2) f d y at_:=by simp[ez,n40,n36,n123]
       rw[e];exact JR B b r2 p q d (eG d) y (bf y 40 hy40) (bf y 123 hy123) (bf y 36 hy36) rfl (ma d 12 76 rfl (by decide +kernel) e76) (ma d 3 79 rfl (by decide +kernel) e79) (ma d 11 69 rfl (by decide +kernel) e69) hne2 (uY d hdv e76 e79 e69) f at_ w h (by omega) ha0 ha1
    rcases aF (c=79) with rfl|h79
    ·rcases aF (y=40) with rfl|hy40
     ·exact GM B b r p f at_ w h (by omega) (hne (by decide)) ha0 ha1
     have n40:y.toNat≠40:=nn hy40;have e:ez ((79,p)::r) f y at_=dK ((67,p)::r) f 67 y at_:=by simp[ez,n40]
     rw[e];exact JQ B b r p y (bf y 40 hy40) f at_ w h (by omega) (hne (by decide)) ha0 ha1
    rcases aF (c=69) with rfl|h69
    ·rcases aF (y=41) with rfl|hy41
     ·exact GT B b r p f at_ w h (by omega) (hne (by decide)) ha0 ha1
     have n41:y.toNat≠41:=nn hy41;have e:ez ((69,p)::r) f y at_=dK ((65,p)::r) f 65 y at_:=by simp[ez,n41]
     rw[e];exact JS B b r p y (bf y 41 hy41) f at_ w h (by omega) (hne (by decide)) ha0 ha1
    have n76:c.toNat≠76:=nn h76;have n79:c.toNat≠79:=nn h79;have n69:c.toNat≠69:=nn h69;have e:ez ((c,p)::r) f y at_=dK ((c,p)::r) f c y at_:=by simp[ez,n76,n79,n69]
    rw[e];exact LW B b r p (eG c) c y f at_ w h (by omega) rfl (ma c 12 76 rfl (by decide +kernel) h76) (ma c 3 79 rfl (by decide +kernel) h79) (ma c 11 69 rfl (by decide +kernel) h69) hne (uY c hv.1 h76 h79 h69) ha0 ha1
def Fr (w:World) (B:Nat) (v:Value) (st:ff):Prop:=w.ownsRow B 170 2 v st.length (fU st)
theorem AN:∀u∈fU st,u.oneCell'=true:=by
  induction st with
  | nil=>intro u hu;cases hu
  | cons x st ih=>
    obtain⟨c,p⟩:=x;intro u hu;rw[gD] at hu;rcases bC.1 hu with h|h
    ·exact ih u h
    ·simp at h;rcases h with rfl|rfl<;>rfl
theorem Kb (n c:Nat) (w:World) (h:Rd w w.heap.size 2 (.slice (some A) n c) n (fU st)) (hl:n≤100000) :
    Calls Tryz.prog 185 #[.slice (some A) n c] w fun e w'=>∃v,e=.returned v∧w'.ownsRow w.heap.size 170 2 v n (fU st)∧Below w.heap.size w w':=by
  obtain⟨i0,hi,hz0,hz1,hz2⟩:=cz Tryz.infoFrame;have H:=aa h;clear h;have hnil:=fun (W:World)=>Lib.run_eql_slice_nil (P:=Tryz.prog) W
  go_enter Tryz.func185,Tryz.ntmps185
  go_wp2_with (first
    | (at_builtin
       refine eI rfl (.tmp 5) (.tmp 6) 151 rfl w.heap.size 170 i0 _ 2 16 Tryz.underlying151 hi hz0 hz1 hz2 rfl (by decide) (.slice (some ⟨w.heap.size,0,none⟩) 0 0) 0 [] rfl (World.ownsRow_made _ _ _ (au _) (by unfold maxLen;omega) (by simp)) (.slice (some A) n c) n w.heap.size (fU st) rfl (H.out.keep (by go_grown) (au _)) (AN st) (by unfold maxLen;omega) (by omega) (by simp) ?_;intro v1 w1 hown1 hg1 hv1))
  go_ret;exact⟨v1,rfl,by simpa using hown1,((aD _ _).alloc (au _) _).grown hg1 (by simp) (by intro k hk;simp[Value.ownBlock] at hk;omega)⟩
theorem yV (h:eH w B b st f at_) (hne:st≠[]) (hl:st.length≤100000) :
    Calls Tryz.prog 147 #[.pointer (some ⟨b,0,none⟩)] w fun e w'=>∃g c,e=.returned (.slice (some ⟨g,0,none⟩) st.length c)∧Fr w' w.heap.size (.slice (some ⟨g,0,none⟩) st.length c) st∧Below w.heap.size w w':=by
  obtain⟨h1,g,cap,h2,h3⟩:=h;have c0:w.cell? ⟨b,0,none⟩=some (.slice (some ⟨g,0,none⟩) st.length cap):=by rw[h2.cell];rfl
  have hr:=Rd.of_own h3;have HR:=aa hr;have z0:(((st.length:Nat):Int)==0)=false:=by
    rw[ay]
    have:=List.length_pos_iff.2 hne
    omega
  obtain⟨k,hk⟩:∃k,st.length=k+1:=⟨st.length-1,by have:=List.length_pos_iff.2 hne;omega⟩;have HK:=aa hk;clear h1 h2 h3 hr hne hk;go_enter Tryz.func147,Tryz.ntmps147
  go_wp2_with (go_at_call 185
               refine(Kb st _ _ _ _ HR.out hl).mono ?_;rintro e w1 ⟨v,rfl,hown,hb⟩)
  go_ret;have hk:=HK.out;rw[hk] at hown;obtain⟨g',c',rfl⟩:=iD hown;refine⟨g',c',by rw[hk];rfl,?_,hb⟩;unfold Fr;rw[hk];exact hown
theorem JM (h:eH w B b st f at_) (hne:st≠[]) :
    iH 227 #[.pointer (some ⟨b,0,none⟩)] w (.bool f):=by
  obtain⟨h1,g,cap,h2,h3⟩:=h;have c0:w.cell? ⟨b,0,none⟩=some (.slice (some ⟨g,0,none⟩) st.length cap):=by rw[h2.cell];rfl
  have c1:w.cell? ⟨b,1,none⟩=some (.bool f):=by rw[h2.cell];rfl
  have z0:(((st.length:Nat):Int)==0)=false:=by
    rw[ay]
    have:=List.length_pos_iff.2 hne
    omega
  clear h1 h2 h3 hne
  cases f;all_goals (
    go_enter Tryz.func227,Tryz.ntmps227;go_wp2;go_ret;first|exact⟨rfl,rfl⟩|exact⟨rfl,trivial⟩|simp)
theorem xW (k:Nat) (hlt:k<l.length):fZ l (k+1)=ez (fZ l k).1 (fZ l k).2 ((ByteArray.mk l.toArray)[k]'hlt) k:=by
  show ez _ _ (l.getD k 0) _=_;rw[lO,aE,ax hlt];rfl
def Kn (l:List UInt8) (w:World) (e:Ending) (w':World):Prop:=
  ∃g c,e=.returned (.tuple #[.slice (some ⟨g,0,none⟩) (fZ l l.length).1.length c,.bool (fZ l l.length).2])∧Fr w' w.heap.size (.slice (some ⟨g,0,none⟩) (fZ l l.length).1.length c) (fZ l l.length).1∧Below w.heap.size w w'
theorem MA (hl:l.length≤90000):Calls Tryz.prog 196 #[.string ⟨l.toArray⟩] w (Kn l w):=by
  go_enter Tryz.func196,Tryz.ntmps196
  go_wp2_with (go_at_call 144;refine(F2 _).mono ?_
               rintro e w1 ⟨b,rfl,hm1,hb1⟩)
  have H1:=aa (ac hm1 hb1);clear hm1 hb1;go_loopw [9] (fun i wr=>∃k:Nat,k≤l.length∧i=.int .i64 k∧eH wr w.heap.size b (fZ l k).1 (fZ l k).2 k∧Below w.heap.size w wr) (fun i _=>l.length-(intOf i).toNat)
  case atStart=>exact⟨0,by omega,rfl,H1.out.1,H1.out.2⟩
  case round=>
    obtain⟨k,hk,rfl,hm,hb⟩:=hrel;have hbot:=lg l k;have hv:=sr l k;have hlen:=jm l k;have HR:=aa (ac hm (ac hb (ac hbot hv)));clear hm hb hbot hv;by_cases hlt:k<l.length
    ·have hi0:(0:Int)≤(k:Int):=by omega
     have hi1:(k:Int)<(l.length:Int):=by omega
     go_wp2_with (go_at_call 145
                  refine(Bh w.heap.size b _ _ _ _ _ HR.out.1 HR.out.2.2.1 HR.out.2.2.2 (by omega) (by omega) (by omega)).mono ?_;rintro e w2 ⟨rfl,hm2,hb2⟩;have H2:=aa (ac hm2 hb2);clear hm2 hb2)
     have e:=xW l k hlt;obtain⟨hm2,hb2⟩:=H2.out;rw[←e] at hm2;exact⟨⟨k+1,by omega,by go_num,by simpa using hm2,HR.out.2.1.trans hb2.b⟩,by simp[intOf];omega⟩
    ·have e:k=l.length:=by omega
     subst e
     go_wp2_with (first
       | (go_at_call 147;refine(yV w.heap.size b _ _ _ _ HR.out.1 HR.out.2.2.1.ne (by omega)).mono ?_;rintro e w2 ⟨g,c,rfl,hfr,hb2⟩;have H2:=aa (ac hfr hb2);clear hfr hb2)
       | (go_at_call 227;refine(JM w.heap.size b _ _ _ _ (HR.out.1.below H2.out.2) HR.out.2.2.1.ne).mono ?_;rintro e w3 ⟨rfl,rfl⟩))
     go_ret2;exact⟨g,c,rfl,gj H2.out.1 HR.out.2.1.size,HR.out.2.1.trans (H2.out.2.mono HR.out.2.1.size)⟩
theorem vJ:∀(k:Nat) (c:UInt8) (p:Int),st.reverse[k]? = some (c,p)→(fU st)[k*2]? = some (.int .i64 (eG c))∧(fU st)[k*2+1]? = some (.int .i64 p):=by
  intro k c p;unfold fU;generalize st.reverse=l
  induction l generalizing k with
  | nil=>intro h;simp at h
  | cons x l ih=>
    intro h
    cases k with
    | zero=>simp at h;subst h;simp
    | succ k=>
      have:=ih k (by simpa using h)
      rw[show (k+1)*2=k*2+2 by omega];simpa using this
theorem AU (h:uK c=true):∃m:Nat,m<15∧eG c=(m:Int)∧([84,67,80,79,83,68,66,86,73,65,82,69,76,88,35]:List UInt8)[m]? = some c:=by
  have:=fh (fun c => !uK c||(List.range 15).any (fun m=>eG c==(m:Int)&&([84,67,80,79,83,68,66,86,73,65,82,69,76,88,35]:List UInt8)[m]? == some c)) (by decide +kernel) c
  simp only[h,Bool.not_true,Bool.false_or,List.any_eq_true,aS,aN] at this;obtain⟨m,hm,h1,h2⟩:=this;exact⟨m,cR.1 hm,h1,h2⟩
theorem oz.all {st:ff} (h:oz st):∀x∈st,uK x.1=true:=by
  cases st with
  | nil=>intro x hx;cases hx
  | cons y r=>
    obtain⟨c,p⟩:=y;intro x hx;rcases bP.1 hx with rfl|hx
    ·exact h.1
    ·exact sX _ (h.2 x hx)
end Go.Proofs.YtcagfamdoaoimaaGreatDoor
