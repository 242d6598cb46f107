/- The program's machine: a byte comes (modes.Feed): the stack is what rStep says. -/
import Derived.Test.YtmclohkaiemnaaaGreatDoorMo5
import Derived.Test.YtmclohkaiemnaaaGreatDoorPl6
set_option linter.unusedVariables false
set_option linter.unusedSimpArgs false
set_option maxRecDepth 100000
set_option maxHeartbeats 8000000
namespace Go.Proofs.YtmclohkaiemnaaaGreatDoor
open Go.RowKit
variable {f':Bool} {n:Nat} {st':fK} {w0 w' w2:World} (B b:Nat) (r:fK) (p q:Int) (st:fK) (d:UInt8) (m:Int) (c y:UInt8) (f:Bool) (l:List UInt8) (at_ k:Int) (A:Addr) (w:World)
theorem eT.top {w:World} {B b:Nat} {st:fK} {f:Bool} {at_ p m:Int} {c:UInt8} (h:eT w B b ((c,p)::st) f at_) (hn:st.length=n) (hm:m=fg c) :
    ∃g cap,w.cell? ⟨b,0,none⟩=some (.slice (some ⟨g,0,none⟩) (n+1) cap)∧w.cell? ⟨g,n*2,none⟩=some (.int .i64 m)∧n+1≤cap∧cap≤9223372036854775807:=by
  subst hn hm;obtain⟨h1,g,cap,h2,h3⟩:=h;have hle:=iu h3;exact⟨g,cap,by rw[h2.cell];rfl,eM h3 _ _ (by rw[gX,aP (by rw[iI];omega)];simp[iI]),hle.2.1,by have:=hle.2.2.1;unfold maxLen at this;omega⟩
theorem qi {w:World} {B b:Nat} {st:fK} {f:Bool} {at_:Int} (h:eT w' B b st' f' at_) (hb0:BM B w w0) (hb:BM B w0 w') (hs:st'=st) (hf:f'=f) :
    Mo w B b (.tuple #[]) st f (at_+1) (.returned (.tuple #[])) (w'.setCell ⟨b,2,none⟩ (.int .i64 (at_+1))):=by
  subst hs hf;exact⟨rfl,h.setAt _,BM.setCell (hb0.trans hb) h _⟩
theorem Aq {w:World} {B b:Nat} {st:fK} {f:Bool} {at_:Int} (h:eT w2 B b st' f' at_) (hb0:BM B w w0) (hb:BM B w0 w') (hb2:BM B w' w2) (hs:st'=st) (hf:f'=f) :
    Mo w B b (.tuple #[]) st f (at_+1) (.returned (.tuple #[])) (w2.setCell ⟨b,2,none⟩ (.int .i64 (at_+1))):=qi h (hb0.trans hb) hb2 hs hf
theorem Mv (h:eT w B b ((c,p)::r) f at_) (hl:r.length≤99980) (hm:m=fg c) (h12:(m==12)=false) (h3:(m==3)=false) (h11:(m==11)=false) (ht:c≠84→r≠[]) (hc:c=84∨c=67∨c=80∨c=65∨c=82∨c=68∨c=73∨c=86∨c=88∨c=83∨c=35∨c=66) (ha0:0≤at_) (ha1:at_≤1000000000) :
    lu 133 y w B b (.tuple #[]) (dZ ((c,p)::r) f c y at_).1 (dZ ((c,p)::r) f c y at_).2 (at_+1):=by
  obtain⟨n,hn⟩:∃n,r.length=n:=⟨_,rfl⟩;obtain⟨g,cap,t0,t1,t2,t3⟩:=h.top (n:=n) (m:=m) hn hm;have HM:=ac h;have HL:=ac hl;have HN:=ac hn;clear h hl hn;have z0:(((n:Int)+1)==0)=false:=by rw[aK];omega
  have HT:=ac (ae hm (ae ht hc));clear hm ht hc;go_enter Tryz.func133,Tryz.ntmps133;go_step3;go_wp2;go_step3;go_wp2;refine du 1 ?_;rw[dx];go_wp2_with fail;go_quiet (fail)
  go_wp2_with (first
    | (go_at_call 159;refine(sJ B b r c p m y f at_ _ HT.out.1 (HM.out.drewN _) (by have h1:=HN.out;have h2:=HL.out;omega) HT.out.2.1 HT.out.2.2).mono ?_;rintro e w1 ⟨rfl,hm1,hb1⟩;obtain⟨x0,x1,x2,x3,x4⟩:=hm1.cells;have HM1:=ac (ae hm1 hb1);clear hm1 hb1))
  rw[aY];go_end0;exact qi HM1.out.1 (BM.drewN (BM.refl _ _) _) HM1.out.2 rfl rfl
theorem Gl (h:eT w B b ((76,p)::(d,q)::r) f at_) (hl:r.length≤99970) (ha0:0≤at_) (ha1:at_≤1000000000) :
    lu 133 40 w B b (.tuple #[]) ((79,p)::(d,q)::r) true (at_+1):=by
  obtain⟨n,hn⟩:∃n,((d,q)::r:fK).length=n:=⟨_,rfl⟩;obtain⟨g,cap,t0,t1,t2,t3⟩:=h.top (n:=n) (m:=12) hn rfl;have HM:=ac h;have HL:=ac hl;have HN:=ac hn;clear h hl hn;have z0:(((n:Int)+1)==0)=false:=by rw[aK];omega
  go_enter Tryz.func133,Tryz.ntmps133;go_step3;go_wp2;go_step3;go_wp2;refine du 1 ?_;rw[dx];go_wp2_with fail;go_quiet (fail)
  go_wp2_with (first
    | (go_at_call 156;refine(NR B b r p q d f at_ _ (HM.out.drewN _) (by have h2:=HL.out;omega)).mono ?_;rintro e w1 ⟨rfl,hm1,hb1⟩;obtain⟨x0,x1,x2,x3,x4⟩:=hm1.cells;have HM1:=ac (ae hm1 hb1);clear hm1 hb1))
  rw[aY];go_end0;exact qi HM1.out.1 (BM.drewN (BM.refl _ _) _) HM1.out.2 rfl rfl
theorem Gm (h:eT w B b ((76,p)::(d,q)::r) f at_) (hl:r.length≤99970) (ha0:0≤at_) (ha1:at_≤1000000000) :
    lu 133 36 w B b (.tuple #[]) ((d,q)::r) f (at_+1):=by
  obtain⟨n,hn⟩:∃n,((d,q)::r:fK).length=n:=⟨_,rfl⟩;obtain⟨g,cap,t0,t1,t2,t3⟩:=h.top (n:=n) (m:=12) hn rfl;have HM:=ac h;have HL:=ac hl;have HN:=ac hn;clear h hl hn;have z0:(((n:Int)+1)==0)=false:=by rw[aK];omega
  go_enter Tryz.func133,Tryz.ntmps133;go_step3;go_wp2;go_step3;go_wp2;refine du 1 ?_;rw[dx];go_wp2_with fail;go_quiet (fail)
  go_wp2_with (first
    | (go_at_call 156;refine(NS B b r p q d f at_ _ (HM.out.drewN _) (by have h2:=HL.out;omega)).mono ?_;rintro e w1 ⟨rfl,hm1,hb1⟩;obtain⟨x0,x1,x2,x3,x4⟩:=hm1.cells;have HM1:=ac (ae hm1 hb1);clear hm1 hb1))
  rw[aY];go_end0;exact qi HM1.out.1 (BM.drewN (BM.refl _ _) _) HM1.out.2 rfl rfl
theorem yT (hd:5=fg d) (f:Bool) (at_:Int) (w:World) (h:eT w B b ((76,p)::(d,q)::r) f at_) (hl:r.length≤99970) (ha0:0≤at_) (ha1:at_≤1000000000) :
    lu 133 123 w B b (.tuple #[]) ((73,p)::(d,q)::r) f (at_+1):=by
  obtain⟨n,hn⟩:∃n,((d,q)::r:fK).length=n:=⟨_,rfl⟩;obtain⟨g,cap,t0,t1,t2,t3⟩:=h.top (n:=n) (m:=12) hn rfl;have HM:=ac h;have HL:=ac hl;have HN:=ac hn;clear h hl hn;have z0:(((n:Int)+1)==0)=false:=by rw[aK];omega
  have Hd:=ac hd;clear hd;go_enter Tryz.func133,Tryz.ntmps133;go_step3;go_wp2;go_step3;go_wp2;refine du 1 ?_;rw[dx];go_wp2_with fail;go_quiet (fail)
  go_wp2_with (first
    | (go_at_call 156;refine(GA B b r p q d 5 f at_ _ (HM.out.drewN _) (by have h2:=HL.out;omega) Hd.out rfl).mono ?_;rintro e w1 ⟨rfl,hm1,hb1⟩;obtain⟨x0,x1,x2,x3,x4⟩:=hm1.cells;have HM1:=ac (ae hm1 hb1);clear hm1 hb1))
  rw[aY];go_end0;exact qi HM1.out.1 (BM.drewN (BM.refl _ _) _) HM1.out.2 rfl rfl
theorem yS (hd:8=fg d) (f:Bool) (at_:Int) (w:World) (h:eT w B b ((76,p)::(d,q)::r) f at_) (hl:r.length≤99970) (ha0:0≤at_) (ha1:at_≤1000000000) :
    lu 133 123 w B b (.tuple #[]) ((73,p)::(d,q)::r) f (at_+1):=by
  obtain⟨n,hn⟩:∃n,((d,q)::r:fK).length=n:=⟨_,rfl⟩;obtain⟨g,cap,t0,t1,t2,t3⟩:=h.top (n:=n) (m:=12) hn rfl;have HM:=ac h;have HL:=ac hl;have HN:=ac hn;clear h hl hn;have z0:(((n:Int)+1)==0)=false:=by rw[aK];omega
  have Hd:=ac hd;clear hd;go_enter Tryz.func133,Tryz.ntmps133;go_step3;go_wp2;go_step3;go_wp2;refine du 1 ?_;rw[dx];go_wp2_with fail;go_quiet (fail)
  go_wp2_with (first
    | (go_at_call 156;refine(Gz B b r p q d 8 f at_ _ (HM.out.drewN _) (by have h2:=HL.out;omega) Hd.out rfl).mono ?_;rintro e w1 ⟨rfl,hm1,hb1⟩;obtain⟨x0,x1,x2,x3,x4⟩:=hm1.cells;have HM1:=ac (ae hm1 hb1);clear hm1 hb1))
  rw[aY];go_end0;exact qi HM1.out.1 (BM.drewN (BM.refl _ _) _) HM1.out.2 rfl rfl
theorem yR (hd:m=fg d) (hm5:(m==5)=false) (hm8:(m==8)=false) (f:Bool) (at_:Int) (w:World) (h:eT w B b ((76,p)::(d,q)::r) f at_) (hl:r.length≤99970) (ha0:0≤at_) (ha1:at_≤1000000000) :
    lu 133 123 w B b (.tuple #[]) ((86,p)::(d,q)::r) f (at_+1):=by
  obtain⟨n,hn⟩:∃n,((d,q)::r:fK).length=n:=⟨_,rfl⟩;obtain⟨g,cap,t0,t1,t2,t3⟩:=h.top (n:=n) (m:=12) hn rfl;have HM:=ac h;have HL:=ac hl;have HN:=ac hn;clear h hl hn;have z0:(((n:Int)+1)==0)=false:=by rw[aK];omega
  have Hd:=ac hd;clear hd;go_enter Tryz.func133,Tryz.ntmps133;go_step3;go_wp2;go_step3;go_wp2;refine du 1 ?_;rw[dx];go_wp2_with fail;go_quiet (fail)
  go_wp2_with (first
    | (go_at_call 156;refine(Gy B b r p q d m f at_ _ (HM.out.drewN _) (by have h2:=HL.out;omega) Hd.out hm5 hm8).mono ?_;rintro e w1 ⟨rfl,hm1,hb1⟩;obtain⟨x0,x1,x2,x3,x4⟩:=hm1.cells;have HM1:=ac (ae hm1 hb1);clear hm1 hb1))
  rw[aY];go_end0;exact qi HM1.out.1 (BM.drewN (BM.refl _ _) _) HM1.out.2 rfl rfl
theorem JZ (hc40:((c.toNat:Int)==40)=false) (hc123:((c.toNat:Int)==123)=false) (hc36:((c.toNat:Int)==36)=false) (hd:m=fg d) (h12:(m==12)=false) (h3:(m==3)=false) (h11:(m==11)=false) (ht:d≠84→r≠[]) (hc:d=84∨d=67∨d=80∨d=65∨d=82∨d=68∨d=73∨d=86∨d=88∨d=83∨d=35∨d=66) (f:Bool) (at_:Int) (w:World) (h:eT w B b ((76,p)::(d,q)::r) f at_) (hl:r.length≤99970) (ha0:0≤at_) (ha1:at_≤1000000000) :
    lu 133 c w B b (.tuple #[]) (dZ ((d,q)::r) f d c at_).1 (dZ ((d,q)::r) f d c at_).2 (at_+1):=by
  obtain⟨n,hn⟩:∃n,((d,q)::r:fK).length=n:=⟨_,rfl⟩;obtain⟨g,cap,t0,t1,t2,t3⟩:=h.top (n:=n) (m:=12) hn rfl;have HM:=ac h;have HL:=ac hl;have HN:=ac hn;clear h hl hn;have z0:(((n:Int)+1)==0)=false:=by rw[aK];omega
  have Hd:=ac hd;have HT:=ac (ae ht hc);clear hd ht hc;obtain⟨k,hk⟩:∃k,r.length=k:=⟨_,rfl⟩;have HK:=ac hk;clear hk;go_enter Tryz.func133,Tryz.ntmps133;go_step3;go_wp2;go_step3;go_wp2;refine du 2 ?_;rw[dx];go_wp2_with fail;go_quiet (fail)
  go_wp2_with (first
    | (go_at_call 156;refine(Oy B b r p q d c f at_ _ (HM.out.drewN _) (by have h2:=HL.out;omega) hc40 hc123 hc36).mono ?_;rintro e w1 ⟨rfl,hm1,hb1⟩;obtain⟨x0,x1,x2,x3,x4⟩:=hm1.cells;obtain⟨g1,cap1,s0,s1,s2,s3⟩:=hm1.top (n:=k) (m:=m) HK.out Hd.out;have HM1:=ac (ae hm1 hb1);clear hm1 hb1))
  rw[dx];go_wp2_with fail;go_quiet (fail)
  go_wp2_with (first
    | (go_at_call 159;refine(sJ B b r d q m c f at_ _ Hd.out (HM1.out.1.drewN _) (by have h2:=HL.out;omega) HT.out.1 HT.out.2).mono ?_;rintro e w2 ⟨rfl,hm2,hb2⟩;obtain⟨x0,x1,x2,x3,x4⟩:=hm2.cells;have HM2:=ac (ae hm2 hb2);clear hm2 hb2))
  rw[aY];go_end0;exact Aq HM2.out.1 (BM.drewN (BM.refl _ _) _) HM1.out.2 ((BM.drewN (BM.refl _ _) _).trans HM2.out.2) rfl rfl
theorem Gk (h:eT w B b ((79,p)::r) f at_) (hl:r.length≤99970) (ht:r≠[]) (ha0:0≤at_) (ha1:at_≤1000000000) :
    lu 133 40 w B b (.tuple #[]) ((65,p)::r) false (at_+1):=by
  obtain⟨n,hn⟩:∃n,r.length=n:=⟨_,rfl⟩;obtain⟨g,cap,t0,t1,t2,t3⟩:=h.top (n:=n) (m:=3) hn rfl;have HM:=ac h;have HL:=ac hl;have HN:=ac hn;clear h hl hn;have z0:(((n:Int)+1)==0)=false:=by rw[aK];omega
  have Ht:=ac ht;clear ht;go_enter Tryz.func133,Tryz.ntmps133;go_step3;go_wp2;go_step3;go_wp2;refine du 1 ?_;rw[dx];go_wp2_with fail;go_quiet (fail)
  go_wp2_with (first
    | (go_at_call 157;refine(jY B b _ _ _ _ _ 65 9 _ rfl (HM.out.drewN _)).mono ?_;rintro e w1 ⟨rfl,hm1,hb1⟩;obtain⟨x0,x1,x2,x3,x4⟩:=hm1.cells;have HM1:=ac (ae hm1 hb1);clear hm1 hb1))
  rw[aY];go_end0;exact qi (HM1.out.1.setFresh _) (BM.drewN (BM.refl _ _) _) (BM.setCell HM1.out.2 HM1.out.1 _) rfl rfl
theorem Gn (h:eT w B b ((69,p)::r) f at_) (hl:r.length≤99970) (ht:r≠[]) (ha0:0≤at_) (ha1:at_≤1000000000) :
    lu 133 41 w B b (.tuple #[]) r f (at_+1):=by
  obtain⟨n,hn⟩:∃n,r.length=n:=⟨_,rfl⟩;obtain⟨g,cap,t0,t1,t2,t3⟩:=h.top (n:=n) (m:=11) hn rfl;have HM:=ac h;have HL:=ac hl;have HN:=ac hn;clear h hl hn;have z0:(((n:Int)+1)==0)=false:=by rw[aK];omega
  have Ht:=ac ht;clear ht;go_enter Tryz.func133,Tryz.ntmps133;go_step3;go_wp2;go_step3;go_wp2;refine du 1 ?_;rw[dx];go_wp2_with fail;go_quiet (fail)
  go_wp2_with (first
    | (go_at_call 158;refine(jn B b _ _ _ _ _ _ (HM.out.drewN _) Ht.out).mono ?_;rintro e w1 ⟨rfl,hm1,hb1⟩;obtain⟨x0,x1,x2,x3,x4⟩:=hm1.cells;have HM1:=ac (ae hm1 hb1);clear hm1 hb1))
  rw[aY];go_end0;exact qi HM1.out.1 (BM.drewN (BM.refl _ _) _) HM1.out.2 rfl rfl
theorem JY (hc40:((c.toNat:Int)==40)=false) (f:Bool) (at_:Int) (w:World) (h:eT w B b ((79,p)::r) f at_) (hl:r.length≤99970) (ht:r≠[]) (ha0:0≤at_) (ha1:at_≤1000000000) :
    lu 133 c w B b (.tuple #[]) (dZ ((67,p)::r) f 67 c at_).1 (dZ ((67,p)::r) f 67 c at_).2 (at_+1):=by
  obtain⟨n,hn⟩:∃n,r.length=n:=⟨_,rfl⟩;obtain⟨g,cap,t0,t1,t2,t3⟩:=h.top (n:=n) (m:=3) hn rfl;have HM:=ac h;have HL:=ac hl;have HN:=ac hn;clear h hl hn;have z0:(((n:Int)+1)==0)=false:=by rw[aK];omega
  have Ht:=ac ht;clear ht;go_enter Tryz.func133,Tryz.ntmps133;go_step3;go_wp2;go_step3;go_wp2;refine du 2 ?_;rw[dx];go_wp2_with fail;go_quiet (fail)
  go_wp2_with (first
    | (go_at_call 157;refine(jY B b _ _ _ _ _ 67 1 _ rfl (HM.out.drewN _)).mono ?_;rintro e w1 ⟨rfl,hm1,hb1⟩;obtain⟨x0,x1,x2,x3,x4⟩:=hm1.cells;obtain⟨g1,cap1,s0,s1,s2,s3⟩:=hm1.top (n:=n) (m:=1) HN.out rfl;have HM1:=ac (ae hm1 hb1);clear hm1 hb1))
  rw[dx];go_wp2_with fail;go_quiet (fail)
  go_wp2_with (first
    | (go_at_call 159;refine(sJ B b r 67 p 1 c f at_ _ rfl (HM1.out.1.drewN _) (by have h1:=HN.out;have h2:=HL.out;omega) (fun _=>Ht.out) (by decide)).mono ?_;rintro e w2 ⟨rfl,hm2,hb2⟩;obtain⟨x0,x1,x2,x3,x4⟩:=hm2.cells;have HM2:=ac (ae hm2 hb2);clear hm2 hb2))
  rw[aY];go_end0;exact Aq HM2.out.1 (BM.drewN (BM.refl _ _) _) HM1.out.2 ((BM.drewN (BM.refl _ _) _).trans HM2.out.2) rfl rfl
theorem J1 (hc41:((c.toNat:Int)==41)=false) (f:Bool) (at_:Int) (w:World) (h:eT w B b ((69,p)::r) f at_) (hl:r.length≤99970) (ht:r≠[]) (ha0:0≤at_) (ha1:at_≤1000000000) :
    lu 133 c w B b (.tuple #[]) (dZ ((65,p)::r) f 65 c at_).1 (dZ ((65,p)::r) f 65 c at_).2 (at_+1):=by
  obtain⟨n,hn⟩:∃n,r.length=n:=⟨_,rfl⟩;obtain⟨g,cap,t0,t1,t2,t3⟩:=h.top (n:=n) (m:=11) hn rfl;have HM:=ac h;have HL:=ac hl;have HN:=ac hn;clear h hl hn;have z0:(((n:Int)+1)==0)=false:=by rw[aK];omega
  have Ht:=ac ht;clear ht;go_enter Tryz.func133,Tryz.ntmps133;go_step3;go_wp2;go_step3;go_wp2;refine du 2 ?_;rw[dx];go_wp2_with fail;go_quiet (fail)
  go_wp2_with (first
    | (go_at_call 157;refine(jY B b _ _ _ _ _ 65 9 _ rfl (HM.out.drewN _)).mono ?_;rintro e w1 ⟨rfl,hm1,hb1⟩;obtain⟨x0,x1,x2,x3,x4⟩:=hm1.cells;obtain⟨g1,cap1,s0,s1,s2,s3⟩:=hm1.top (n:=n) (m:=9) HN.out rfl;have HM1:=ac (ae hm1 hb1);clear hm1 hb1))
  rw[dx];go_wp2_with fail;go_quiet (fail)
  go_wp2_with (first
    | (go_at_call 159;refine(sJ B b r 65 p 9 c f at_ _ rfl (HM1.out.1.drewN _) (by have h1:=HN.out;have h2:=HL.out;omega) (fun _=>Ht.out) (by decide)).mono ?_;rintro e w2 ⟨rfl,hm2,hb2⟩;obtain⟨x0,x1,x2,x3,x4⟩:=hm2.cells;have HM2:=ac (ae hm2 hb2);clear hm2 hb2))
  rw[aY];go_end0;exact Aq HM2.out.1 (BM.drewN (BM.refl _ _) _) HM1.out.2 ((BM.drewN (BM.refl _ _) _).trans HM2.out.2) rfl rfl
theorem uH (h:zw c=true) (h1:c≠76) (h2:c≠79) (h3:c≠69):c=84∨c=67∨c=80∨c=65∨c=82∨c=68∨c=73∨c=86∨c=88∨c=83∨c=35∨c=66:=by
  have:=gh (fun c => !zw c||c==76||c==79||c==69||c==84||c==67||c==80||c==65||c==82||c==68||c==73||c==86||c==88||c==83||c==35||c==66) (by decide +kernel) c
  simp only[h,Bool.not_true,Bool.false_or,dU,bA,h1,h2,h3,false_or] at this;simpa [or_assoc] using this
theorem lO (l:UInt8) (hk:fg l=k) (hl:(List.range 256).all (fun n=>fg (UInt8.ofNat n)!=fg l||UInt8.ofNat n==l)=true) (h:c≠l):(fg c==k)=false:=by
  have:=gh (fun c=>fg c != fg l||c==l) hl c
  rw[←hk];simp[h] at this;simpa using this
theorem AJ (h:eT w B b st f at_) (hbot:ns st) (hv:oP st) (hl:st.length≤99960) (ha0:0≤at_) (ha1:at_≤1000000000) :
    lu 133 y w B b (.tuple #[]) (f9 st f y at_).1 (f9 st f y at_).2 (at_+1):=by
  match st,hbot,hv with
  | (c,p)::r,hbot,hv=>
    simp only[aL] at hl;have hne:c≠84→r≠[]:=fun hc=>(hbot.tail hc).ne
    rcases aS (c=76) with rfl|h76
    ·match r,hbot,hv with
     | [],hbot,_=>exact absurd hbot.single (by decide)
     | (d,q)::r2,hbot,hv=>
       simp only[aL] at hl;have hd:=hv.2 (d,q) (by simp);have hdv:=sP d hd;obtain⟨d1,d2,d3⟩:=FC d hd;have e76:d≠76:=fun e=>d3 (by rw[e];rfl)
       have e79:d≠79:=fun e=>d1 (by rw[e];rfl)
       have e69:d≠69:=fun e=>d2 (by rw[e];rfl)
       have hne2:d≠84→r2≠[]:=fun hc=>((hbot.tail (by decide)).tail hc).ne
       rcases aS (y=40) with rfl|hy40
       ·exact Gl B b r2 p q d f at_ w h (by omega) ha0 ha1
       rcases aS (y=36) with rfl|hy36
       ·have e:f9 ((76,p)::(d,q)::r2) f 36 at_=((d,q)::r2,f):=by simp[f9]
        rw[e];exact Gm B b r2 p q d f at_ w h (by omega) ha0 ha1
       have n40:y.toNat≠40:=nn hy40;have n36:y.toNat≠36:=nn hy36;rcases aS (y=123) with rfl|hy123
       ·rcases aS (d=68) with rfl|hd68
        ·exact yT B b r2 p q 68 rfl f at_ w h (by omega) ha0 ha1
        rcases aS (d=73) with rfl|hd73
        ·exact yS B b r2 p q 73 rfl f at_ w h (by omega) ha0 ha1
        have n1:d.toNat≠68:=nn hd68;have n2:d.toNat≠73:=nn hd73;have e:f9 ((76,p)::(d,q)::r2) f 123 at_=((86,p)::(d,q)::r2,f):=by simp[f9,n1,n2]
        rw[e];exact yR B b r2 p q d (fg d) rfl (lO d 5 68 rfl (by decide +kernel) hd68) (lO d 8 73 rfl (by decide +kernel) hd73) f at_ w h (by omega) ha0 ha1
       have n123:y.toNat≠123:=nn hy123;have e:f9 ((76,p)::(d,q)::r2) f y at_=dZ ((d,q)::r2) f d y at_:=by simp[f9,n40,n36,n123]
       rw[e];exact JZ B b r2 p q d (fg d) y (bf y 40 hy40) (bf y 123 hy123) (bf y 36 hy36) rfl (lO d 12 76 rfl (by decide +kernel) e76) (lO d 3 79 rfl (by decide +kernel) e79) (lO d 11 69 rfl (by decide +kernel) e69) hne2 (uH d hdv e76 e79 e69) f at_ w h (by omega) ha0 ha1
    rcases aS (c=79) with rfl|h79
    ·rcases aS (y=40) with rfl|hy40
     ·exact Gk B b r p f at_ w h (by omega) (hne (by decide)) ha0 ha1
     have n40:y.toNat≠40:=nn hy40;have e:f9 ((79,p)::r) f y at_=dZ ((67,p)::r) f 67 y at_:=by simp[f9,n40]
     rw[e];exact JY B b r p y (bf y 40 hy40) f at_ w h (by omega) (hne (by decide)) ha0 ha1
    rcases aS (c=69) with rfl|h69
    ·rcases aS (y=41) with rfl|hy41
     ·exact Gn B b r p f at_ w h (by omega) (hne (by decide)) ha0 ha1
     have n41:y.toNat≠41:=nn hy41;have e:f9 ((69,p)::r) f y at_=dZ ((65,p)::r) f 65 y at_:=by simp[f9,n41]
     rw[e];exact J1 B b r p y (bf y 41 hy41) f at_ w h (by omega) (hne (by decide)) ha0 ha1
    have n76:c.toNat≠76:=nn h76;have n79:c.toNat≠79:=nn h79;have n69:c.toNat≠69:=nn h69;have e:f9 ((c,p)::r) f y at_=dZ ((c,p)::r) f c y at_:=by simp[f9,n76,n79,n69]
    rw[e];exact Mv B b r p (fg c) c y f at_ w h (by omega) rfl (lO c 12 76 rfl (by decide +kernel) h76) (lO c 3 79 rfl (by decide +kernel) h79) (lO c 11 69 rfl (by decide +kernel) h69) hne (uH c hv.1 h76 h79 h69) ha0 ha1
def Fr (w:World) (B:Nat) (v:Value) (st:fK):Prop:=w.ownsRow B 175 2 v st.length (gC st)
theorem An:∀u∈gC st,u.oneCell'=true:=by
  induction st with
  | nil=>intro u hu;cases hu
  | cons x st ih=>
    obtain⟨c,p⟩:=x;intro u hu;rw[gX] at hu;rcases bM.1 hu with h|h
    ·exact ih u h
    ·simp at h;rcases h with rfl|rfl<;>rfl
theorem Kg (n c:Nat) (w:World) (h:Rd w w.heap.size 2 (.slice (some A) n c) n (gC st)) (hl:n≤100000) :
    Calls Tryz.prog 193 #[.slice (some A) n c] w fun e w'=>∃v,e=.returned v∧w'.ownsRow w.heap.size 175 2 v n (gC st)∧Below w.heap.size w w':=by
  obtain⟨i0,hi,hz0,hz1,hz2⟩:=cL Tryz.infoFrame;have H:=ac h;clear h;have hnil:=fun (W:World)=>Lib.run_eql_slice_nil (P:=Tryz.prog) W
  go_enter Tryz.func193,Tryz.ntmps193
  go_wp2_with (first
    | (at_builtin
       refine gE rfl (.tmp 5) (.tmp 6) 146 rfl w.heap.size 175 i0 _ 2 16 Tryz.underlying146 hi hz0 hz1 hz2 rfl (by decide) (.slice (some ⟨w.heap.size,0,none⟩) 0 0) 0 [] rfl (World.ownsRow_made _ _ _ (au _) (by unfold maxLen;omega) (by simp)) (.slice (some A) n c) n w.heap.size (gC st) rfl (H.out.keep (by go_grown) (au _)) (An st) (by unfold maxLen;omega) (by omega) (by simp) ?_;intro v1 w1 hown1 hg1 hv1))
  go_ret;exact⟨v1,rfl,by simpa using hown1,((ay _ _).alloc (au _) _).grown hg1 (by simp) (by intro k hk;simp[Value.ownBlock] at hk;omega)⟩
theorem yM (h:eT w B b st f at_) (hne:st≠[]) (hl:st.length≤100000) :
    Calls Tryz.prog 160 #[.pointer (some ⟨b,0,none⟩)] w fun e w'=>∃g c,e=.returned (.slice (some ⟨g,0,none⟩) st.length c)∧Fr w' w.heap.size (.slice (some ⟨g,0,none⟩) st.length c) st∧Below w.heap.size w w':=by
  obtain⟨h1,g,cap,h2,h3⟩:=h;have c0:w.cell? ⟨b,0,none⟩=some (.slice (some ⟨g,0,none⟩) st.length cap):=by rw[h2.cell];rfl
  have hr:=Rd.of_own h3;have HR:=ac hr;have z0:(((st.length:Nat):Int)==0)=false:=by
    rw[aK]
    have:=List.length_pos_iff.2 hne
    omega
  obtain⟨k,hk⟩:∃k,st.length=k+1:=⟨st.length-1,by have:=List.length_pos_iff.2 hne;omega⟩;have HK:=ac hk;clear h1 h2 h3 hr hne hk;go_enter Tryz.func160,Tryz.ntmps160
  go_wp2_with (go_at_call 193
               refine(Kg st _ _ _ _ HR.out hl).mono ?_;rintro e w1 ⟨v,rfl,hown,hb⟩)
  go_ret;have hk:=HK.out;rw[hk] at hown;obtain⟨g',c',rfl⟩:=gS hown;refine⟨g',c',by rw[hk];rfl,?_,hb⟩;unfold Fr;rw[hk];exact hown
theorem JS (h:eT w B b st f at_) (hne:st≠[]) :
    ls 161 #[.pointer (some ⟨b,0,none⟩)] w (.bool f):=by
  obtain⟨h1,g,cap,h2,h3⟩:=h;have c0:w.cell? ⟨b,0,none⟩=some (.slice (some ⟨g,0,none⟩) st.length cap):=by rw[h2.cell];rfl
  have c1:w.cell? ⟨b,1,none⟩=some (.bool f):=by rw[h2.cell];rfl
  have z0:(((st.length:Nat):Int)==0)=false:=by
    rw[aK]
    have:=List.length_pos_iff.2 hne
    omega
  clear h1 h2 h3 hne
  cases f;all_goals (
    go_enter Tryz.func161,Tryz.ntmps161;go_wp2;go_ret;first|exact⟨rfl,rfl⟩|exact⟨rfl,trivial⟩|simp)
theorem xP (k:Nat) (hlt:k<l.length):iA l (k+1)=f9 (iA l k).1 (iA l k).2 ((ByteArray.mk l.toArray)[k]'hlt) k:=by
  show f9 _ _ (l.getD k 0) _=_;rw[uj,aF,ax hlt];rfl
def Kx (l:List UInt8) (w:World) (e:Ending) (w':World):Prop:=
  ∃g c,e=.returned (.tuple #[.slice (some ⟨g,0,none⟩) (iA l l.length).1.length c,.bool (iA l l.length).2])∧Fr w' w.heap.size (.slice (some ⟨g,0,none⟩) (iA l l.length).1.length c) (iA l l.length).1∧Below w.heap.size w w'
theorem Nj (hl:l.length≤90000):Calls Tryz.prog 134 #[.string ⟨l.toArray⟩] w (Kx l w):=by
  go_enter Tryz.func134,Tryz.ntmps134
  go_wp2_with (go_at_call 131;refine(Fw _).mono ?_
               rintro e w1 ⟨b,rfl,hm1,hb1⟩)
  have H1:=ac (ae hm1 hb1);clear hm1 hb1;go_loopw [9] (fun i wr=>∃k:Nat,k≤l.length∧i=.int .i64 k∧eT wr w.heap.size b (iA l k).1 (iA l k).2 k∧Below w.heap.size w wr) (fun i _=>l.length-(intOf i).toNat)
  case atStart=>exact⟨0,by omega,rfl,H1.out.1,H1.out.2⟩
  case round=>
    obtain⟨k,hk,rfl,hm,hb⟩:=hrel;have hbot:=ou l k;have hv:=uO l k;have hlen:=mM l k;have HR:=ac (ae hm (ae hb (ae hbot hv)));clear hm hb hbot hv;by_cases hlt:k<l.length
    ·have hi0:(0:Int)≤(k:Int):=by omega
     have hi1:(k:Int)<(l.length:Int):=by omega
     go_wp2_with (go_at_call 133
                  refine(AJ w.heap.size b _ _ _ _ _ HR.out.1 HR.out.2.2.1 HR.out.2.2.2 (by omega) (by omega) (by omega)).mono ?_;rintro e w2 ⟨rfl,hm2,hb2⟩;have H2:=ac (ae hm2 hb2);clear hm2 hb2)
     have e:=xP l k hlt;obtain⟨hm2,hb2⟩:=H2.out;rw[←e] at hm2;exact⟨⟨k+1,by omega,by go_num,by simpa using hm2,HR.out.2.1.trans hb2.b⟩,by simp[intOf];omega⟩
    ·have e:k=l.length:=by omega
     subst e
     go_wp2_with (first
       | (go_at_call 160;refine(yM w.heap.size b _ _ _ _ HR.out.1 HR.out.2.2.1.ne (by omega)).mono ?_;rintro e w2 ⟨g,c,rfl,hfr,hb2⟩;have H2:=ac (ae hfr hb2);clear hfr hb2)
       | (go_at_call 161;refine(JS w.heap.size b _ _ _ _ (HR.out.1.below H2.out.2) HR.out.2.2.1.ne).mono ?_;rintro e w3 ⟨rfl,rfl⟩))
     go_ret2;exact⟨g,c,rfl,iW H2.out.1 HR.out.2.1.size,HR.out.2.1.trans (H2.out.2.mono HR.out.2.1.size)⟩
theorem vj:∀(k:Nat) (c:UInt8) (p:Int),st.reverse[k]? = some (c,p)→(gC st)[k*2]? = some (.int .i64 (fg c))∧(gC st)[k*2+1]? = some (.int .i64 p):=by
  intro k c p;unfold gC;generalize st.reverse=l
  induction l generalizing k with
  | nil=>intro h;simp at h
  | cons x l ih=>
    intro h
    cases k with
    | zero=>simp at h;subst h;simp
    | succ k=>
      have:=ih k (by simpa using h)
      rw[show (k+1)*2=k*2+2 by omega];simpa using this
theorem oP.all {st:fK} (h:oP st):∀x∈st,zw x.1=true:=by
  cases st with
  | nil=>intro x hx;cases hx
  | cons y r=>
    obtain⟨c,p⟩:=y;intro x hx;rcases bj.1 hx with rfl|hx
    ·exact h.1
    ·exact sP _ (h.2 x hx)
end Go.Proofs.YtmclohkaiemnaaaGreatDoor
