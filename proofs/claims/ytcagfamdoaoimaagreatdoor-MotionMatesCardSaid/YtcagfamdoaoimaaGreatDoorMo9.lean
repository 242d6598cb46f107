/- The program's machine: a byte comes (modes.Feed): the stack is what rStep says. -/
import Derived.Test.YtcagfamdoaoimaaGreatDoorMo5
import Derived.Test.YtcagfamdoaoimaaGreatDoorPl6
set_option linter.unusedVariables false
set_option linter.unusedSimpArgs false
set_option maxRecDepth 100000
set_option maxHeartbeats 8000000
namespace Go.Proofs.YtcagfamdoaoimaaGreatDoor
open Go.RowKit
variable {f':Bool} {n:Nat} {st':eU} {w0 w' w2:World} (B b:Nat) (r:eU) (p q:Int) (st:eU) (d:UInt8) (m:Int) (c y:UInt8) (f:Bool) (l:List UInt8) (at_ k:Int) (A:Addr) (w:World)
theorem eI.top {w:World} {B b:Nat} {st:eU} {f:Bool} {at_ p m:Int} {c:UInt8} (h:eI w B b ((c,p)::st) f at_) (hn:st.length=n) (hm:m=eH c) :
    ∃g cap,w.cell? ⟨b,0,none⟩=some (.slice (some ⟨g,0,none⟩) (n+1) cap)∧w.cell? ⟨g,n*2,none⟩=some (.int .i64 m)∧n+1≤cap∧cap≤9223372036854775807:=by
  subst hn hm;obtain⟨h1,g,cap,h2,h3⟩:=h;have hle:=gM h3;exact⟨g,cap,by rw[h2.cell];rfl,dW h3 _ _ (by rw[gy,aX (by rw[ij];omega)];simp[ij]),hle.2.1,by have:=hle.2.2.1;unfold maxLen at this;omega⟩
theorem qB {w:World} {B b:Nat} {st:eU} {f:Bool} {at_:Int} (h:eI w' B b st' f' at_) (hb0:BM B w w0) (hb:BM B w0 w') (hs:st'=st) (hf:f'=f) :
    Mo w B b (.tuple #[]) st f (at_+1) (.returned (.tuple #[])) (w'.setCell ⟨b,2,none⟩ (.int .i64 (at_+1))):=by
  subst hs hf;exact⟨rfl,h.setAt _,BM.setCell (hb0.trans hb) h _⟩
theorem AZ {w:World} {B b:Nat} {st:eU} {f:Bool} {at_:Int} (h:eI w2 B b st' f' at_) (hb0:BM B w w0) (hb:BM B w0 w') (hb2:BM B w' w2) (hs:st'=st) (hf:f'=f) :
    Mo w B b (.tuple #[]) st f (at_+1) (.returned (.tuple #[])) (w2.setCell ⟨b,2,none⟩ (.int .i64 (at_+1))):=qB h (hb0.trans hb) hb2 hs hf
theorem LZ (h:eI w B b ((c,p)::r) f at_) (hl:r.length≤99980) (hm:m=eH c) (h12:(m==12)=false) (h3:(m==3)=false) (h11:(m==11)=false) (ht:c≠84→r≠[]) (hc:c=84∨c=67∨c=80∨c=65∨c=82∨c=68∨c=73∨c=86∨c=88∨c=83∨c=35∨c=66) (ha0:0≤at_) (ha1:at_≤1000000000) :
    lC 145 y w B b (.tuple #[]) (dL ((c,p)::r) f c y at_).1 (dL ((c,p)::r) f c y at_).2 (at_+1):=by
  obtain⟨n,hn⟩:∃n,r.length=n:=⟨_,rfl⟩;obtain⟨g,cap,t0,t1,t2,t3⟩:=h.top (n:=n) (m:=m) hn hm;have HM:=aa h;have HL:=aa hl;have HN:=aa hn;clear h hl hn;have z0:(((n:Int)+1)==0)=false:=by rw[az];omega
  have HT:=aa (ac hm (ac ht hc));clear hm ht hc;go_enter Tryz.func145,Tryz.ntmps145;go_step3;go_wp2;go_step3;go_wp2;refine du 1 ?_;rw[dw];go_wp2_with fail;go_quiet (fail)
  go_wp2_with (first
    | (go_at_call 183;refine(sR B b r c p m y f at_ _ HT.out.1 (HM.out.drewN _) (by have h1:=HN.out;have h2:=HL.out;omega) HT.out.2.1 HT.out.2.2).mono ?_;rintro e w1 ⟨rfl,hm1,hb1⟩;obtain⟨x0,x1,x2,x3,x4⟩:=hm1.cells;have HM1:=aa (ac hm1 hb1);clear hm1 hb1))
  rw[bj];go_end0;exact qB HM1.out.1 (BM.drewN (BM.refl _ _) _) HM1.out.2 rfl rfl
theorem GH (h:eI w B b ((76,p)::(d,q)::r) f at_) (hl:r.length≤99970) (ha0:0≤at_) (ha1:at_≤1000000000) :
    lC 145 40 w B b (.tuple #[]) ((79,p)::(d,q)::r) true (at_+1):=by
  obtain⟨n,hn⟩:∃n,((d,q)::r:eU).length=n:=⟨_,rfl⟩;obtain⟨g,cap,t0,t1,t2,t3⟩:=h.top (n:=n) (m:=12) hn rfl;have HM:=aa h;have HL:=aa hl;have HN:=aa hn;clear h hl hn;have z0:(((n:Int)+1)==0)=false:=by rw[az];omega
  go_enter Tryz.func145,Tryz.ntmps145;go_step3;go_wp2;go_step3;go_wp2;refine du 1 ?_;rw[dw];go_wp2_with fail;go_quiet (fail)
  go_wp2_with (first
    | (go_at_call 180;refine(Nt B b r p q d f at_ _ (HM.out.drewN _) (by have h2:=HL.out;omega)).mono ?_;rintro e w1 ⟨rfl,hm1,hb1⟩;obtain⟨x0,x1,x2,x3,x4⟩:=hm1.cells;have HM1:=aa (ac hm1 hb1);clear hm1 hb1))
  rw[bj];go_end0;exact qB HM1.out.1 (BM.drewN (BM.refl _ _) _) HM1.out.2 rfl rfl
theorem GI (h:eI w B b ((76,p)::(d,q)::r) f at_) (hl:r.length≤99970) (ha0:0≤at_) (ha1:at_≤1000000000) :
    lC 145 36 w B b (.tuple #[]) ((d,q)::r) f (at_+1):=by
  obtain⟨n,hn⟩:∃n,((d,q)::r:eU).length=n:=⟨_,rfl⟩;obtain⟨g,cap,t0,t1,t2,t3⟩:=h.top (n:=n) (m:=12) hn rfl;have HM:=aa h;have HL:=aa hl;have HN:=aa hn;clear h hl hn;have z0:(((n:Int)+1)==0)=false:=by rw[az];omega
  go_enter Tryz.func145,Tryz.ntmps145;go_step3;go_wp2;go_step3;go_wp2;refine du 1 ?_;rw[dw];go_wp2_with fail;go_quiet (fail)
  go_wp2_with (first
    | (go_at_call 180;refine(Nu B b r p q d f at_ _ (HM.out.drewN _) (by have h2:=HL.out;omega)).mono ?_;rintro e w1 ⟨rfl,hm1,hb1⟩;obtain⟨x0,x1,x2,x3,x4⟩:=hm1.cells;have HM1:=aa (ac hm1 hb1);clear hm1 hb1))
  rw[bj];go_end0;exact qB HM1.out.1 (BM.drewN (BM.refl _ _) _) HM1.out.2 rfl rfl
theorem zy (hd:5=eH d) (f:Bool) (at_:Int) (w:World) (h:eI w B b ((76,p)::(d,q)::r) f at_) (hl:r.length≤99970) (ha0:0≤at_) (ha1:at_≤1000000000) :
    lC 145 123 w B b (.tuple #[]) ((73,p)::(d,q)::r) f (at_+1):=by
  obtain⟨n,hn⟩:∃n,((d,q)::r:eU).length=n:=⟨_,rfl⟩;obtain⟨g,cap,t0,t1,t2,t3⟩:=h.top (n:=n) (m:=12) hn rfl;have HM:=aa h;have HL:=aa hl;have HN:=aa hn;clear h hl hn;have z0:(((n:Int)+1)==0)=false:=by rw[az];omega
  have Hd:=aa hd;clear hd;go_enter Tryz.func145,Tryz.ntmps145;go_step3;go_wp2;go_step3;go_wp2;refine du 1 ?_;rw[dw];go_wp2_with fail;go_quiet (fail)
  go_wp2_with (first
    | (go_at_call 180;refine(G6 B b r p q d 5 f at_ _ (HM.out.drewN _) (by have h2:=HL.out;omega) Hd.out rfl).mono ?_;rintro e w1 ⟨rfl,hm1,hb1⟩;obtain⟨x0,x1,x2,x3,x4⟩:=hm1.cells;have HM1:=aa (ac hm1 hb1);clear hm1 hb1))
  rw[bj];go_end0;exact qB HM1.out.1 (BM.drewN (BM.refl _ _) _) HM1.out.2 rfl rfl
theorem zx (hd:8=eH d) (f:Bool) (at_:Int) (w:World) (h:eI w B b ((76,p)::(d,q)::r) f at_) (hl:r.length≤99970) (ha0:0≤at_) (ha1:at_≤1000000000) :
    lC 145 123 w B b (.tuple #[]) ((73,p)::(d,q)::r) f (at_+1):=by
  obtain⟨n,hn⟩:∃n,((d,q)::r:eU).length=n:=⟨_,rfl⟩;obtain⟨g,cap,t0,t1,t2,t3⟩:=h.top (n:=n) (m:=12) hn rfl;have HM:=aa h;have HL:=aa hl;have HN:=aa hn;clear h hl hn;have z0:(((n:Int)+1)==0)=false:=by rw[az];omega
  have Hd:=aa hd;clear hd;go_enter Tryz.func145,Tryz.ntmps145;go_step3;go_wp2;go_step3;go_wp2;refine du 1 ?_;rw[dw];go_wp2_with fail;go_quiet (fail)
  go_wp2_with (first
    | (go_at_call 180;refine(G5 B b r p q d 8 f at_ _ (HM.out.drewN _) (by have h2:=HL.out;omega) Hd.out rfl).mono ?_;rintro e w1 ⟨rfl,hm1,hb1⟩;obtain⟨x0,x1,x2,x3,x4⟩:=hm1.cells;have HM1:=aa (ac hm1 hb1);clear hm1 hb1))
  rw[bj];go_end0;exact qB HM1.out.1 (BM.drewN (BM.refl _ _) _) HM1.out.2 rfl rfl
theorem zw (hd:m=eH d) (hm5:(m==5)=false) (hm8:(m==8)=false) (f:Bool) (at_:Int) (w:World) (h:eI w B b ((76,p)::(d,q)::r) f at_) (hl:r.length≤99970) (ha0:0≤at_) (ha1:at_≤1000000000) :
    lC 145 123 w B b (.tuple #[]) ((86,p)::(d,q)::r) f (at_+1):=by
  obtain⟨n,hn⟩:∃n,((d,q)::r:eU).length=n:=⟨_,rfl⟩;obtain⟨g,cap,t0,t1,t2,t3⟩:=h.top (n:=n) (m:=12) hn rfl;have HM:=aa h;have HL:=aa hl;have HN:=aa hn;clear h hl hn;have z0:(((n:Int)+1)==0)=false:=by rw[az];omega
  have Hd:=aa hd;clear hd;go_enter Tryz.func145,Tryz.ntmps145;go_step3;go_wp2;go_step3;go_wp2;refine du 1 ?_;rw[dw];go_wp2_with fail;go_quiet (fail)
  go_wp2_with (first
    | (go_at_call 180;refine(G0 B b r p q d m f at_ _ (HM.out.drewN _) (by have h2:=HL.out;omega) Hd.out hm5 hm8).mono ?_;rintro e w1 ⟨rfl,hm1,hb1⟩;obtain⟨x0,x1,x2,x3,x4⟩:=hm1.cells;have HM1:=aa (ac hm1 hb1);clear hm1 hb1))
  rw[bj];go_end0;exact qB HM1.out.1 (BM.drewN (BM.refl _ _) _) HM1.out.2 rfl rfl
theorem JQ (hc40:((c.toNat:Int)==40)=false) (hc123:((c.toNat:Int)==123)=false) (hc36:((c.toNat:Int)==36)=false) (hd:m=eH d) (h12:(m==12)=false) (h3:(m==3)=false) (h11:(m==11)=false) (ht:d≠84→r≠[]) (hc:d=84∨d=67∨d=80∨d=65∨d=82∨d=68∨d=73∨d=86∨d=88∨d=83∨d=35∨d=66) (f:Bool) (at_:Int) (w:World) (h:eI w B b ((76,p)::(d,q)::r) f at_) (hl:r.length≤99970) (ha0:0≤at_) (ha1:at_≤1000000000) :
    lC 145 c w B b (.tuple #[]) (dL ((d,q)::r) f d c at_).1 (dL ((d,q)::r) f d c at_).2 (at_+1):=by
  obtain⟨n,hn⟩:∃n,((d,q)::r:eU).length=n:=⟨_,rfl⟩;obtain⟨g,cap,t0,t1,t2,t3⟩:=h.top (n:=n) (m:=12) hn rfl;have HM:=aa h;have HL:=aa hl;have HN:=aa hn;clear h hl hn;have z0:(((n:Int)+1)==0)=false:=by rw[az];omega
  have Hd:=aa hd;have HT:=aa (ac ht hc);clear hd ht hc;obtain⟨k,hk⟩:∃k,r.length=k:=⟨_,rfl⟩;have HK:=aa hk;clear hk;go_enter Tryz.func145,Tryz.ntmps145;go_step3;go_wp2;go_step3;go_wp2;refine du 2 ?_;rw[dw];go_wp2_with fail;go_quiet (fail)
  go_wp2_with (first
    | (go_at_call 180;refine(NI B b r p q d c f at_ _ (HM.out.drewN _) (by have h2:=HL.out;omega) hc40 hc123 hc36).mono ?_;rintro e w1 ⟨rfl,hm1,hb1⟩;obtain⟨x0,x1,x2,x3,x4⟩:=hm1.cells;obtain⟨g1,cap1,s0,s1,s2,s3⟩:=hm1.top (n:=k) (m:=m) HK.out Hd.out;have HM1:=aa (ac hm1 hb1);clear hm1 hb1))
  rw[dw];go_wp2_with fail;go_quiet (fail)
  go_wp2_with (first
    | (go_at_call 183;refine(sR B b r d q m c f at_ _ Hd.out (HM1.out.1.drewN _) (by have h2:=HL.out;omega) HT.out.1 HT.out.2).mono ?_;rintro e w2 ⟨rfl,hm2,hb2⟩;obtain⟨x0,x1,x2,x3,x4⟩:=hm2.cells;have HM2:=aa (ac hm2 hb2);clear hm2 hb2))
  rw[bj];go_end0;exact AZ HM2.out.1 (BM.drewN (BM.refl _ _) _) HM1.out.2 ((BM.drewN (BM.refl _ _) _).trans HM2.out.2) rfl rfl
theorem GG (h:eI w B b ((79,p)::r) f at_) (hl:r.length≤99970) (ht:r≠[]) (ha0:0≤at_) (ha1:at_≤1000000000) :
    lC 145 40 w B b (.tuple #[]) ((65,p)::r) false (at_+1):=by
  obtain⟨n,hn⟩:∃n,r.length=n:=⟨_,rfl⟩;obtain⟨g,cap,t0,t1,t2,t3⟩:=h.top (n:=n) (m:=3) hn rfl;have HM:=aa h;have HL:=aa hl;have HN:=aa hn;clear h hl hn;have z0:(((n:Int)+1)==0)=false:=by rw[az];omega
  have Ht:=aa ht;clear ht;go_enter Tryz.func145,Tryz.ntmps145;go_step3;go_wp2;go_step3;go_wp2;refine du 1 ?_;rw[dw];go_wp2_with fail;go_quiet (fail)
  go_wp2_with (first
    | (go_at_call 181;refine(km B b _ _ _ _ _ 65 9 _ rfl (HM.out.drewN _)).mono ?_;rintro e w1 ⟨rfl,hm1,hb1⟩;obtain⟨x0,x1,x2,x3,x4⟩:=hm1.cells;have HM1:=aa (ac hm1 hb1);clear hm1 hb1))
  rw[bj];go_end0;exact qB (HM1.out.1.setFresh _) (BM.drewN (BM.refl _ _) _) (BM.setCell HM1.out.2 HM1.out.1 _) rfl rfl
theorem GJ (h:eI w B b ((69,p)::r) f at_) (hl:r.length≤99970) (ht:r≠[]) (ha0:0≤at_) (ha1:at_≤1000000000) :
    lC 145 41 w B b (.tuple #[]) r f (at_+1):=by
  obtain⟨n,hn⟩:∃n,r.length=n:=⟨_,rfl⟩;obtain⟨g,cap,t0,t1,t2,t3⟩:=h.top (n:=n) (m:=11) hn rfl;have HM:=aa h;have HL:=aa hl;have HN:=aa hn;clear h hl hn;have z0:(((n:Int)+1)==0)=false:=by rw[az];omega
  have Ht:=aa ht;clear ht;go_enter Tryz.func145,Tryz.ntmps145;go_step3;go_wp2;go_step3;go_wp2;refine du 1 ?_;rw[dw];go_wp2_with fail;go_quiet (fail)
  go_wp2_with (first
    | (go_at_call 182;refine(i9 B b _ _ _ _ _ _ (HM.out.drewN _) Ht.out).mono ?_;rintro e w1 ⟨rfl,hm1,hb1⟩;obtain⟨x0,x1,x2,x3,x4⟩:=hm1.cells;have HM1:=aa (ac hm1 hb1);clear hm1 hb1))
  rw[bj];go_end0;exact qB HM1.out.1 (BM.drewN (BM.refl _ _) _) HM1.out.2 rfl rfl
theorem JP (hc40:((c.toNat:Int)==40)=false) (f:Bool) (at_:Int) (w:World) (h:eI w B b ((79,p)::r) f at_) (hl:r.length≤99970) (ht:r≠[]) (ha0:0≤at_) (ha1:at_≤1000000000) :
    lC 145 c w B b (.tuple #[]) (dL ((67,p)::r) f 67 c at_).1 (dL ((67,p)::r) f 67 c at_).2 (at_+1):=by
  obtain⟨n,hn⟩:∃n,r.length=n:=⟨_,rfl⟩;obtain⟨g,cap,t0,t1,t2,t3⟩:=h.top (n:=n) (m:=3) hn rfl;have HM:=aa h;have HL:=aa hl;have HN:=aa hn;clear h hl hn;have z0:(((n:Int)+1)==0)=false:=by rw[az];omega
  have Ht:=aa ht;clear ht;go_enter Tryz.func145,Tryz.ntmps145;go_step3;go_wp2;go_step3;go_wp2;refine du 2 ?_;rw[dw];go_wp2_with fail;go_quiet (fail)
  go_wp2_with (first
    | (go_at_call 181;refine(km B b _ _ _ _ _ 67 1 _ rfl (HM.out.drewN _)).mono ?_;rintro e w1 ⟨rfl,hm1,hb1⟩;obtain⟨x0,x1,x2,x3,x4⟩:=hm1.cells;obtain⟨g1,cap1,s0,s1,s2,s3⟩:=hm1.top (n:=n) (m:=1) HN.out rfl;have HM1:=aa (ac hm1 hb1);clear hm1 hb1))
  rw[dw];go_wp2_with fail;go_quiet (fail)
  go_wp2_with (first
    | (go_at_call 183;refine(sR B b r 67 p 1 c f at_ _ rfl (HM1.out.1.drewN _) (by have h1:=HN.out;have h2:=HL.out;omega) (fun _=>Ht.out) (by decide)).mono ?_;rintro e w2 ⟨rfl,hm2,hb2⟩;obtain⟨x0,x1,x2,x3,x4⟩:=hm2.cells;have HM2:=aa (ac hm2 hb2);clear hm2 hb2))
  rw[bj];go_end0;exact AZ HM2.out.1 (BM.drewN (BM.refl _ _) _) HM1.out.2 ((BM.drewN (BM.refl _ _) _).trans HM2.out.2) rfl rfl
theorem JR (hc41:((c.toNat:Int)==41)=false) (f:Bool) (at_:Int) (w:World) (h:eI w B b ((69,p)::r) f at_) (hl:r.length≤99970) (ht:r≠[]) (ha0:0≤at_) (ha1:at_≤1000000000) :
    lC 145 c w B b (.tuple #[]) (dL ((65,p)::r) f 65 c at_).1 (dL ((65,p)::r) f 65 c at_).2 (at_+1):=by
  obtain⟨n,hn⟩:∃n,r.length=n:=⟨_,rfl⟩;obtain⟨g,cap,t0,t1,t2,t3⟩:=h.top (n:=n) (m:=11) hn rfl;have HM:=aa h;have HL:=aa hl;have HN:=aa hn;clear h hl hn;have z0:(((n:Int)+1)==0)=false:=by rw[az];omega
  have Ht:=aa ht;clear ht;go_enter Tryz.func145,Tryz.ntmps145;go_step3;go_wp2;go_step3;go_wp2;refine du 2 ?_;rw[dw];go_wp2_with fail;go_quiet (fail)
  go_wp2_with (first
    | (go_at_call 181;refine(km B b _ _ _ _ _ 65 9 _ rfl (HM.out.drewN _)).mono ?_;rintro e w1 ⟨rfl,hm1,hb1⟩;obtain⟨x0,x1,x2,x3,x4⟩:=hm1.cells;obtain⟨g1,cap1,s0,s1,s2,s3⟩:=hm1.top (n:=n) (m:=9) HN.out rfl;have HM1:=aa (ac hm1 hb1);clear hm1 hb1))
  rw[dw];go_wp2_with fail;go_quiet (fail)
  go_wp2_with (first
    | (go_at_call 183;refine(sR B b r 65 p 9 c f at_ _ rfl (HM1.out.1.drewN _) (by have h1:=HN.out;have h2:=HL.out;omega) (fun _=>Ht.out) (by decide)).mono ?_;rintro e w2 ⟨rfl,hm2,hb2⟩;obtain⟨x0,x1,x2,x3,x4⟩:=hm2.cells;have HM2:=aa (ac hm2 hb2);clear hm2 hb2))
  rw[bj];go_end0;exact AZ HM2.out.1 (BM.drewN (BM.refl _ _) _) HM1.out.2 ((BM.drewN (BM.refl _ _) _).trans HM2.out.2) rfl rfl
theorem vc (h:uM c=true) (h1:c≠76) (h2:c≠79) (h3:c≠69):c=84∨c=67∨c=80∨c=65∨c=82∨c=68∨c=73∨c=86∨c=88∨c=83∨c=35∨c=66:=by
  have:=fg (fun c => !uM c||c==76||c==79||c==69||c==84||c==67||c==80||c==65||c==82||c==68||c==73||c==86||c==88||c==83||c==35||c==66) (by decide +kernel) c
  simp only[h,Bool.not_true,Bool.false_or,dm,aR,h1,h2,h3,false_or] at this;simpa [or_assoc] using this
theorem lP (l:UInt8) (hk:eH l=k) (hl:(List.range 256).all (fun n=>eH (UInt8.ofNat n)!=eH l||UInt8.ofNat n==l)=true) (h:c≠l):(eH c==k)=false:=by
  have:=fg (fun c=>eH c != eH l||c==l) hl c
  rw[←hk];simp[h] at this;simpa using this
theorem Bq (h:eI w B b st f at_) (hbot:l9 st) (hv:og st) (hl:st.length≤99960) (ha0:0≤at_) (ha1:at_≤1000000000) :
    lC 145 y w B b (.tuple #[]) (eG st f y at_).1 (eG st f y at_).2 (at_+1):=by
  match st,hbot,hv with
  | (c,p)::r,hbot,hv=>
    simp only[aP] at hl;have hne:c≠84→r≠[]:=fun hc=>(hbot.tail hc).ne
    rcases aF (c=76) with rfl|h76
    ·match r,hbot,hv with
     | [],hbot,_=>exact absurd hbot.single (by decide)
     | (d,q)::r2,hbot,hv=>
       simp only[aP] at hl;have hd:=hv.2 (d,q) (by simp);have hdv:=sX d hd;obtain⟨d1,d2,d3⟩:=F2 d hd;have e76:d≠76:=fun e=>d3 (by rw[e];rfl)
       have e79:d≠79:=fun e=>d1 (by rw[e];rfl)
       have e69:d≠69:=fun e=>d2 (by rw[e];rfl)
       have hne2:d≠84→r2≠[]:=fun hc=>((hbot.tail (by decide)).tail hc).ne
       rcases aF (y=40) with rfl|hy40
       ·exact GH B b r2 p q d f at_ w h (by omega) ha0 ha1
       rcases aF (y=36) with rfl|hy36
       ·have e:eG ((76,p)::(d,q)::r2) f 36 at_=((d,q)::r2,f):=by simp[eG]
        rw[e];exact GI B b r2 p q d f at_ w h (by omega) ha0 ha1
       have n40:y.toNat≠40:=nn hy40;have n36:y.toNat≠36:=nn hy36;rcases aF (y=123) with rfl|hy123
       ·rcases aF (d=68) with rfl|hd68
        ·exact zy B b r2 p q 68 rfl f at_ w h (by omega) ha0 ha1
        rcases aF (d=73) with rfl|hd73
        ·exact zx B b r2 p q 73 rfl f at_ w h (by omega) ha0 ha1
        have n1:d.toNat≠68:=nn hd68;have n2:d.toNat≠73:=nn hd73;have e:eG ((76,p)::(d,q)::r2) f 123 at_=((86,p)::(d,q)::r2,f):=by simp[eG,n1,n2]
        rw[e];exact zw B b r2 p q d (eH d) rfl (lP d 5 68 rfl (by decide +kernel) hd68) (lP d 8 73 rfl (by decide +kernel) hd73) f at_ w h (by omega) ha0 ha1
       have n123:y.toNat≠123:=nn hy123;have e:eG ((76,p)::(d,q)::r2) f y at_=dL ((d,q)::r2) f d y at_:=by simp[eG,n40,n36,n123]
       rw[e];exact JQ B b r2 p q d (eH d) y (bf y 40 hy40) (bf y 123 hy123) (bf y 36 hy36) rfl (lP d 12 76 rfl (by decide +kernel) e76) (lP d 3 79 rfl (by decide +kernel) e79) (lP d 11 69 rfl (by decide +kernel) e69) hne2 (vc d hdv e76 e79 e69) f at_ w h (by omega) ha0 ha1
    rcases aF (c=79) with rfl|h79
    ·rcases aF (y=40) with rfl|hy40
     ·exact GG B b r p f at_ w h (by omega) (hne (by decide)) ha0 ha1
     have n40:y.toNat≠40:=nn hy40;have e:eG ((79,p)::r) f y at_=dL ((67,p)::r) f 67 y at_:=by simp[eG,n40]
     rw[e];exact JP B b r p y (bf y 40 hy40) f at_ w h (by omega) (hne (by decide)) ha0 ha1
    rcases aF (c=69) with rfl|h69
    ·rcases aF (y=41) with rfl|hy41
     ·exact GJ B b r p f at_ w h (by omega) (hne (by decide)) ha0 ha1
     have n41:y.toNat≠41:=nn hy41;have e:eG ((69,p)::r) f y at_=dL ((65,p)::r) f 65 y at_:=by simp[eG,n41]
     rw[e];exact JR B b r p y (bf y 41 hy41) f at_ w h (by omega) (hne (by decide)) ha0 ha1
    have n76:c.toNat≠76:=nn h76;have n79:c.toNat≠79:=nn h79;have n69:c.toNat≠69:=nn h69;have e:eG ((c,p)::r) f y at_=dL ((c,p)::r) f c y at_:=by simp[eG,n76,n79,n69]
    rw[e];exact LZ B b r p (eH c) c y f at_ w h (by omega) rfl (lP c 12 76 rfl (by decide +kernel) h76) (lP c 3 79 rfl (by decide +kernel) h79) (lP c 11 69 rfl (by decide +kernel) h69) hne (vc c hv.1 h76 h79 h69) ha0 ha1
def Fr (w:World) (B:Nat) (v:Value) (st:eU):Prop:=w.ownsRow B 170 2 v st.length (fU st)
theorem AY:∀u∈fU st,u.oneCell'=true:=by
  induction st with
  | nil=>intro u hu;cases hu
  | cons x st ih=>
    obtain⟨c,p⟩:=x;intro u hu;rw[gy] at hu;rcases aZ.1 hu with h|h
    ·exact ih u h
    ·simp at h;rcases h with rfl|rfl<;>rfl
theorem J6 (n c:Nat) (w:World) (h:Rd w w.heap.size 2 (.slice (some A) n c) n (fU st)) (hl:n≤100000) :
    Calls Tryz.prog 185 #[.slice (some A) n c] w fun e w'=>∃v,e=.returned v∧w'.ownsRow w.heap.size 170 2 v n (fU st)∧Below w.heap.size w w':=by
  obtain⟨i0,hi,hz0,hz1,hz2⟩:=cD Tryz.infoFrame;have H:=aa h;clear h;have hnil:=fun (W:World)=>Lib.run_eql_slice_nil (P:=Tryz.prog) W
  go_enter Tryz.func185,Tryz.ntmps185
  go_wp2_with (first
    | (at_builtin
       refine eD rfl (.tmp 5) (.tmp 6) 151 rfl w.heap.size 170 i0 _ 2 16 Tryz.underlying151 hi hz0 hz1 hz2 rfl (by decide) (.slice (some ⟨w.heap.size,0,none⟩) 0 0) 0 [] rfl (World.ownsRow_made _ _ _ (au _) (by unfold maxLen;omega) (by simp)) (.slice (some A) n c) n w.heap.size (fU st) rfl (H.out.keep (by go_grown) (au _)) (AY st) (by unfold maxLen;omega) (by omega) (by simp) ?_;intro v1 w1 hown1 hg1 hv1))
  go_ret;exact⟨v1,rfl,by simpa using hown1,((aC _ _).alloc (au _) _).grown hg1 (by simp) (by intro k hk;simp[Value.ownBlock] at hk;omega)⟩
theorem zp (h:eI w B b st f at_) (hne:st≠[]) (hl:st.length≤100000) :
    Calls Tryz.prog 147 #[.pointer (some ⟨b,0,none⟩)] w fun e w'=>∃g c,e=.returned (.slice (some ⟨g,0,none⟩) st.length c)∧Fr w' w.heap.size (.slice (some ⟨g,0,none⟩) st.length c) st∧Below w.heap.size w w':=by
  obtain⟨h1,g,cap,h2,h3⟩:=h;have c0:w.cell? ⟨b,0,none⟩=some (.slice (some ⟨g,0,none⟩) st.length cap):=by rw[h2.cell];rfl
  have hr:=Rd.of_own h3;have HR:=aa hr;have z0:(((st.length:Nat):Int)==0)=false:=by
    rw[az]
    have:=List.length_pos_iff.2 hne
    omega
  obtain⟨k,hk⟩:∃k,st.length=k+1:=⟨st.length-1,by have:=List.length_pos_iff.2 hne;omega⟩;have HK:=aa hk;clear h1 h2 h3 hr hne hk;go_enter Tryz.func147,Tryz.ntmps147
  go_wp2_with (go_at_call 185
               refine(J6 st _ _ _ _ HR.out hl).mono ?_;rintro e w1 ⟨v,rfl,hown,hb⟩)
  go_ret;have hk:=HK.out;rw[hk] at hown;obtain⟨g',c',rfl⟩:=ir hown;refine⟨g',c',by rw[hk];rfl,?_,hb⟩;unfold Fr;rw[hk];exact hown
theorem JL (h:eI w B b st f at_) (hne:st≠[]) :
    iG 227 #[.pointer (some ⟨b,0,none⟩)] w (.bool f):=by
  obtain⟨h1,g,cap,h2,h3⟩:=h;have c0:w.cell? ⟨b,0,none⟩=some (.slice (some ⟨g,0,none⟩) st.length cap):=by rw[h2.cell];rfl
  have c1:w.cell? ⟨b,1,none⟩=some (.bool f):=by rw[h2.cell];rfl
  have z0:(((st.length:Nat):Int)==0)=false:=by
    rw[az]
    have:=List.length_pos_iff.2 hne
    omega
  clear h1 h2 h3 hne
  cases f;all_goals (
    go_enter Tryz.func227,Tryz.ntmps227;go_wp2;go_ret;first|exact⟨rfl,rfl⟩|exact⟨rfl,trivial⟩|simp)
theorem ym (k:Nat) (hlt:k<l.length):fY l (k+1)=eG (fY l k).1 (fY l k).2 ((ByteArray.mk l.toArray)[k]'hlt) k:=by
  show eG _ _ (l.getD k 0) _=_;rw[lz,aE,ax hlt];rfl
def Km (l:List UInt8) (w:World) (e:Ending) (w':World):Prop:=
  ∃g c,e=.returned (.tuple #[.slice (some ⟨g,0,none⟩) (fY l l.length).1.length c,.bool (fY l l.length).2])∧Fr w' w.heap.size (.slice (some ⟨g,0,none⟩) (fY l l.length).1.length c) (fY l l.length).1∧Below w.heap.size w w'
theorem MJ (hl:l.length≤90000):Calls Tryz.prog 196 #[.string ⟨l.toArray⟩] w (Km l w):=by
  go_enter Tryz.func196,Tryz.ntmps196
  go_wp2_with (go_at_call 144;refine(FY _).mono ?_
               rintro e w1 ⟨b,rfl,hm1,hb1⟩)
  have H1:=aa (ac hm1 hb1);clear hm1 hb1;go_loopw [9] (fun i wr=>∃k:Nat,k≤l.length∧i=.int .i64 k∧eI wr w.heap.size b (fY l k).1 (fY l k).2 k∧Below w.heap.size w wr) (fun i _=>l.length-(intOf i).toNat)
  case atStart=>exact⟨0,by omega,rfl,H1.out.1,H1.out.2⟩
  case round=>
    obtain⟨k,hk,rfl,hm,hb⟩:=hrel;have hbot:=kU l k;have hv:=sa l k;have hlen:=ji l k;have HR:=aa (ac hm (ac hb (ac hbot hv)));clear hm hb hbot hv;by_cases hlt:k<l.length
    ·have hi0:(0:Int)≤(k:Int):=by omega
     have hi1:(k:Int)<(l.length:Int):=by omega
     go_wp2_with (go_at_call 145
                  refine(Bq w.heap.size b _ _ _ _ _ HR.out.1 HR.out.2.2.1 HR.out.2.2.2 (by omega) (by omega) (by omega)).mono ?_;rintro e w2 ⟨rfl,hm2,hb2⟩;have H2:=aa (ac hm2 hb2);clear hm2 hb2)
     have e:=ym l k hlt;obtain⟨hm2,hb2⟩:=H2.out;rw[←e] at hm2;exact⟨⟨k+1,by omega,by go_num,by simpa using hm2,HR.out.2.1.trans hb2.b⟩,by simp[intOf];omega⟩
    ·have e:k=l.length:=by omega
     subst e
     go_wp2_with (first
       | (go_at_call 147;refine(zp w.heap.size b _ _ _ _ HR.out.1 HR.out.2.2.1.ne (by omega)).mono ?_;rintro e w2 ⟨g,c,rfl,hfr,hb2⟩;have H2:=aa (ac hfr hb2);clear hfr hb2)
       | (go_at_call 227;refine(JL w.heap.size b _ _ _ _ (HR.out.1.below H2.out.2) HR.out.2.2.1.ne).mono ?_;rintro e w3 ⟨rfl,rfl⟩))
     go_ret2;exact⟨g,c,rfl,fK H2.out.1 HR.out.2.1.size,HR.out.2.1.trans (H2.out.2.mono HR.out.2.1.size)⟩
theorem vM:∀(k:Nat) (c:UInt8) (p:Int),st.reverse[k]? = some (c,p)→(fU st)[k*2]? = some (.int .i64 (eH c))∧(fU st)[k*2+1]? = some (.int .i64 p):=by
  intro k c p;unfold fU;generalize st.reverse=l
  induction l generalizing k with
  | nil=>intro h;simp at h
  | cons x l ih=>
    intro h
    cases k with
    | zero=>simp at h;subst h;simp
    | succ k=>
      have:=ih k (by simpa using h)
      rw[show (k+1)*2=k*2+2 by omega];simpa using this
theorem Bf (h:uM c=true):∃m:Nat,m<15∧eH c=(m:Int)∧([84,67,80,79,83,68,66,86,73,65,82,69,76,88,35]:List UInt8)[m]? = some c:=by
  have:=fg (fun c => !uM c||(List.range 15).any (fun m=>eH c==(m:Int)&&([84,67,80,79,83,68,66,86,73,65,82,69,76,88,35]:List UInt8)[m]? == some c)) (by decide +kernel) c
  simp only[h,Bool.not_true,Bool.false_or,List.any_eq_true,aT,aR] at this;obtain⟨m,hm,h1,h2⟩:=this;exact⟨m,cI.1 hm,h1,h2⟩
theorem og.all {st:eU} (h:og st):∀x∈st,uM x.1=true:=by
  cases st with
  | nil=>intro x hx;cases hx
  | cons y r=>
    obtain⟨c,p⟩:=y;intro x hx;rcases br.1 hx with rfl|hx
    ·exact h.1
    ·exact sX _ (h.2 x hx)
end Go.Proofs.YtcagfamdoaoimaaGreatDoor
