/- The program's machine: a byte comes (modes.Feed): the stack is what rStep says. -/
import Derived.Test.YtlbfdbinaekjoaaGreatDoorMo5
import Derived.Test.YtlbfdbinaekjoaaGreatDoorPl6
namespace Go.Proofs.YtlbfdbinaekjoaaGreatDoor
open Go.RowKit
set_option linter.unusedVariables false
set_option linter.unusedSimpArgs false
set_option maxRecDepth 100000
theorem Mach.top {w:World} {B b:Nat} {st:Stk} {f:Bool} {at_ p m:Int} {c:UInt8} {n:Nat} (h:Mach w B b ((c,p)::st) f at_) (hn:st.length=n) (hm:m=modeOf c) :
    ∃g cap,w.cell? ⟨b,0,none⟩=some (.slice (some ⟨g,0,none⟩) (n+1) cap)∧w.cell? ⟨g,n*2,none⟩=some (.int .i64 m)∧n+1≤cap∧cap≤9223372036854775807:=by
  subst hn hm
  obtain⟨h1,g,cap,h2,h3⟩:=h
  have hle:=own_le h3
  exact⟨g,cap,by rw[h2.cell];rfl,own_cell h3 _ _ (by rw[fcells_cons,List.getElem?_append_right (by rw[fcells_len];omega)];simp[fcells_len]),hle.2.1,by have:=hle.2.2.1;unfold maxLen at this;omega⟩
theorem mo_at {w w0 w':World} {B b:Nat} {st st':Stk} {f f':Bool} {at_:Int} (h:Mach w' B b st' f' at_) (hb0:BM B w w0) (hb:BM B w0 w') (hs:st'=st) (hf:f'=f) :
    Mo w B b (.tuple #[]) st f (at_+1) (.returned (.tuple #[])) (w'.setCell ⟨b,2,none⟩ (.int .i64 (at_+1))):=by
  subst hs hf
  exact⟨rfl,h.setAt _,BM.setCell (hb0.trans hb) h _⟩
theorem mo_at2 {w w0 w' w2:World} {B b:Nat} {st st':Stk} {f f':Bool} {at_:Int} (h:Mach w2 B b st' f' at_) (hb0:BM B w w0) (hb:BM B w0 w') (hb2:BM B w' w2) (hs:st'=st) (hf:f'=f) :
    Mo w B b (.tuple #[]) st f (at_+1) (.returned (.tuple #[])) (w2.setCell ⟨b,2,none⟩ (.int .i64 (at_+1))):=mo_at h (hb0.trans hb) hb2 hs hf
set_option maxHeartbeats 1000000 in
theorem feed_e (B b:Nat) (r:Stk) (p m:Int) (c y:UInt8) (f:Bool) (at_:Int) (w:World) (h:Mach w B b ((c,p)::r) f at_) (hl:r.length≤99980) (hm:m=modeOf c) (h12:(m==12)=false) (h3:(m==3)=false) (h11:(m==11)=false) (ht:c≠84→r≠[]) (hc:c=84∨c=67∨c=80∨c=65∨c=82∨c=68∨c=73∨c=86∨c=88∨c=83∨c=35∨c=66) (ha0:0≤at_) (ha1:at_≤1000000000) :
    Calls Tryz.prog 95 #[.pointer (some ⟨b,0,none⟩),.int .u8 ((y:UInt8).toNat:Int)] w (Mo w B b (.tuple #[]) (rPlain ((c,p)::r) f c y at_).1 (rPlain ((c,p)::r) f c y at_).2 (at_+1)):=by
  obtain⟨n,hn⟩:∃n,r.length=n:=⟨_,rfl⟩
  obtain⟨g,cap,t0,t1,t2,t3⟩:=h.top (n:=n) (m:=m) hn hm
  have HM:=Lib.hid h
  have HL:=Lib.hid hl
  have HN:=Lib.hid hn
  clear h hl hn
  have z0:(((n:Int)+1)==0)=false:=by rw[beq_eq_false_iff_ne];omega
  have HT:=Lib.hid (And.intro hm (And.intro ht hc))
  clear hm ht hc
  go_enter Tryz.func95,Tryz.ntmps95
  go_step3
  go_wp2
  go_step3
  go_wp2
  refine wp_loop_rounds 1 ?_
  rw[rounds_succ]
  go_wp2_with fail
  go_quiet (fail)
  go_wp2_with (first
    | (go_at_call 128
       refine(plain_m B b r c p m y f at_ _ HT.out.1 (HM.out.drewN _) (by have h1:=HN.out;have h2:=HL.out;omega) HT.out.2.1 HT.out.2.2).mono ?_
       rintro e w1 ⟨rfl,hm1,hb1⟩
       obtain⟨x0,x1,x2,x3,x4⟩:=hm1.cells
       have HM1:=Lib.hid (And.intro hm1 hb1)
       clear hm1 hb1))
  rw[Exit.noGoto_normal]
  go_end0
  exact mo_at HM1.out.1 (BM.drewN (BM.refl _ _) _) HM1.out.2 rfl rfl
set_option maxHeartbeats 1000000 in
theorem fd_76_40 (B b:Nat) (r:Stk) (p q:Int) (d:UInt8) (f:Bool) (at_:Int) (w:World) (h:Mach w B b ((76,p)::(d,q)::r) f at_) (hl:r.length≤99970) (ha0:0≤at_) (ha1:at_≤1000000000) :
    Calls Tryz.prog 95 #[.pointer (some ⟨b,0,none⟩),.int .u8 ((40:UInt8).toNat:Int)] w (Mo w B b (.tuple #[]) ((79,p)::(d,q)::r) true (at_+1)):=by
  obtain⟨n,hn⟩:∃n,((d,q)::r:Stk).length=n:=⟨_,rfl⟩
  obtain⟨g,cap,t0,t1,t2,t3⟩:=h.top (n:=n) (m:=12) hn rfl
  have HM:=Lib.hid h
  have HL:=Lib.hid hl
  have HN:=Lib.hid hn
  clear h hl hn
  have z0:(((n:Int)+1)==0)=false:=by rw[beq_eq_false_iff_ne];omega
  go_enter Tryz.func95,Tryz.ntmps95
  go_step3
  go_wp2
  go_step3
  go_wp2
  refine wp_loop_rounds 1 ?_
  rw[rounds_succ]
  go_wp2_with fail
  go_quiet (fail)
  go_wp2_with (first
    | (go_at_call 125
       refine(do_40 B b r p q d f at_ _ (HM.out.drewN _) (by have h2:=HL.out;omega)).mono ?_
       rintro e w1 ⟨rfl,hm1,hb1⟩
       obtain⟨x0,x1,x2,x3,x4⟩:=hm1.cells
       have HM1:=Lib.hid (And.intro hm1 hb1)
       clear hm1 hb1))
  rw[Exit.noGoto_normal]
  go_end0
  exact mo_at HM1.out.1 (BM.drewN (BM.refl _ _) _) HM1.out.2 rfl rfl
set_option maxHeartbeats 1000000 in
theorem fd_76_36 (B b:Nat) (r:Stk) (p q:Int) (d:UInt8) (f:Bool) (at_:Int) (w:World) (h:Mach w B b ((76,p)::(d,q)::r) f at_) (hl:r.length≤99970) (ha0:0≤at_) (ha1:at_≤1000000000) :
    Calls Tryz.prog 95 #[.pointer (some ⟨b,0,none⟩),.int .u8 ((36:UInt8).toNat:Int)] w (Mo w B b (.tuple #[]) ((d,q)::r) f (at_+1)):=by
  obtain⟨n,hn⟩:∃n,((d,q)::r:Stk).length=n:=⟨_,rfl⟩
  obtain⟨g,cap,t0,t1,t2,t3⟩:=h.top (n:=n) (m:=12) hn rfl
  have HM:=Lib.hid h
  have HL:=Lib.hid hl
  have HN:=Lib.hid hn
  clear h hl hn
  have z0:(((n:Int)+1)==0)=false:=by rw[beq_eq_false_iff_ne];omega
  go_enter Tryz.func95,Tryz.ntmps95
  go_step3
  go_wp2
  go_step3
  go_wp2
  refine wp_loop_rounds 1 ?_
  rw[rounds_succ]
  go_wp2_with fail
  go_quiet (fail)
  go_wp2_with (first
    | (go_at_call 125
       refine(do_36 B b r p q d f at_ _ (HM.out.drewN _) (by have h2:=HL.out;omega)).mono ?_
       rintro e w1 ⟨rfl,hm1,hb1⟩
       obtain⟨x0,x1,x2,x3,x4⟩:=hm1.cells
       have HM1:=Lib.hid (And.intro hm1 hb1)
       clear hm1 hb1))
  rw[Exit.noGoto_normal]
  go_end0
  exact mo_at HM1.out.1 (BM.drewN (BM.refl _ _) _) HM1.out.2 rfl rfl
set_option maxHeartbeats 1000000 in
theorem fd_76_123_5 (B b:Nat) (r:Stk) (p q:Int) (d:UInt8) (hd:5=modeOf d) (f:Bool) (at_:Int) (w:World) (h:Mach w B b ((76,p)::(d,q)::r) f at_) (hl:r.length≤99970) (ha0:0≤at_) (ha1:at_≤1000000000) :
    Calls Tryz.prog 95 #[.pointer (some ⟨b,0,none⟩),.int .u8 ((123:UInt8).toNat:Int)] w (Mo w B b (.tuple #[]) ((73,p)::(d,q)::r) f (at_+1)):=by
  obtain⟨n,hn⟩:∃n,((d,q)::r:Stk).length=n:=⟨_,rfl⟩
  obtain⟨g,cap,t0,t1,t2,t3⟩:=h.top (n:=n) (m:=12) hn rfl
  have HM:=Lib.hid h
  have HL:=Lib.hid hl
  have HN:=Lib.hid hn
  clear h hl hn
  have z0:(((n:Int)+1)==0)=false:=by rw[beq_eq_false_iff_ne];omega
  have Hd:=Lib.hid hd
  clear hd
  go_enter Tryz.func95,Tryz.ntmps95
  go_step3
  go_wp2
  go_step3
  go_wp2
  refine wp_loop_rounds 1 ?_
  rw[rounds_succ]
  go_wp2_with fail
  go_quiet (fail)
  go_wp2_with (first
    | (go_at_call 125
       refine(do_123_5 B b r p q d 5 f at_ _ (HM.out.drewN _) (by have h2:=HL.out;omega) Hd.out rfl).mono ?_
       rintro e w1 ⟨rfl,hm1,hb1⟩
       obtain⟨x0,x1,x2,x3,x4⟩:=hm1.cells
       have HM1:=Lib.hid (And.intro hm1 hb1)
       clear hm1 hb1))
  rw[Exit.noGoto_normal]
  go_end0
  exact mo_at HM1.out.1 (BM.drewN (BM.refl _ _) _) HM1.out.2 rfl rfl
set_option maxHeartbeats 1000000 in
theorem fd_76_123_8 (B b:Nat) (r:Stk) (p q:Int) (d:UInt8) (hd:8=modeOf d) (f:Bool) (at_:Int) (w:World) (h:Mach w B b ((76,p)::(d,q)::r) f at_) (hl:r.length≤99970) (ha0:0≤at_) (ha1:at_≤1000000000) :
    Calls Tryz.prog 95 #[.pointer (some ⟨b,0,none⟩),.int .u8 ((123:UInt8).toNat:Int)] w (Mo w B b (.tuple #[]) ((73,p)::(d,q)::r) f (at_+1)):=by
  obtain⟨n,hn⟩:∃n,((d,q)::r:Stk).length=n:=⟨_,rfl⟩
  obtain⟨g,cap,t0,t1,t2,t3⟩:=h.top (n:=n) (m:=12) hn rfl
  have HM:=Lib.hid h
  have HL:=Lib.hid hl
  have HN:=Lib.hid hn
  clear h hl hn
  have z0:(((n:Int)+1)==0)=false:=by rw[beq_eq_false_iff_ne];omega
  have Hd:=Lib.hid hd
  clear hd
  go_enter Tryz.func95,Tryz.ntmps95
  go_step3
  go_wp2
  go_step3
  go_wp2
  refine wp_loop_rounds 1 ?_
  rw[rounds_succ]
  go_wp2_with fail
  go_quiet (fail)
  go_wp2_with (first
    | (go_at_call 125
       refine(do_123_8 B b r p q d 8 f at_ _ (HM.out.drewN _) (by have h2:=HL.out;omega) Hd.out rfl).mono ?_
       rintro e w1 ⟨rfl,hm1,hb1⟩
       obtain⟨x0,x1,x2,x3,x4⟩:=hm1.cells
       have HM1:=Lib.hid (And.intro hm1 hb1)
       clear hm1 hb1))
  rw[Exit.noGoto_normal]
  go_end0
  exact mo_at HM1.out.1 (BM.drewN (BM.refl _ _) _) HM1.out.2 rfl rfl
set_option maxHeartbeats 1000000 in
theorem fd_76_123_x (B b:Nat) (r:Stk) (p q:Int) (d:UInt8) (m:Int) (hd:m=modeOf d) (hm5:(m==5)=false) (hm8:(m==8)=false) (f:Bool) (at_:Int) (w:World) (h:Mach w B b ((76,p)::(d,q)::r) f at_) (hl:r.length≤99970) (ha0:0≤at_) (ha1:at_≤1000000000) :
    Calls Tryz.prog 95 #[.pointer (some ⟨b,0,none⟩),.int .u8 ((123:UInt8).toNat:Int)] w (Mo w B b (.tuple #[]) ((86,p)::(d,q)::r) f (at_+1)):=by
  obtain⟨n,hn⟩:∃n,((d,q)::r:Stk).length=n:=⟨_,rfl⟩
  obtain⟨g,cap,t0,t1,t2,t3⟩:=h.top (n:=n) (m:=12) hn rfl
  have HM:=Lib.hid h
  have HL:=Lib.hid hl
  have HN:=Lib.hid hn
  clear h hl hn
  have z0:(((n:Int)+1)==0)=false:=by rw[beq_eq_false_iff_ne];omega
  have Hd:=Lib.hid hd
  clear hd
  go_enter Tryz.func95,Tryz.ntmps95
  go_step3
  go_wp2
  go_step3
  go_wp2
  refine wp_loop_rounds 1 ?_
  rw[rounds_succ]
  go_wp2_with fail
  go_quiet (fail)
  go_wp2_with (first
    | (go_at_call 125
       refine(do_123_x B b r p q d m f at_ _ (HM.out.drewN _) (by have h2:=HL.out;omega) Hd.out hm5 hm8).mono ?_
       rintro e w1 ⟨rfl,hm1,hb1⟩
       obtain⟨x0,x1,x2,x3,x4⟩:=hm1.cells
       have HM1:=Lib.hid (And.intro hm1 hb1)
       clear hm1 hb1))
  rw[Exit.noGoto_normal]
  go_end0
  exact mo_at HM1.out.1 (BM.drewN (BM.refl _ _) _) HM1.out.2 rfl rfl
set_option maxHeartbeats 1000000 in
theorem fd_76_x (B b:Nat) (r:Stk) (p q:Int) (d:UInt8) (m:Int) (c:UInt8) (hc40:((c.toNat:Int)==40)=false) (hc123:((c.toNat:Int)==123)=false) (hc36:((c.toNat:Int)==36)=false) (hd:m=modeOf d) (h12:(m==12)=false) (h3:(m==3)=false) (h11:(m==11)=false) (ht:d≠84→r≠[]) (hc:d=84∨d=67∨d=80∨d=65∨d=82∨d=68∨d=73∨d=86∨d=88∨d=83∨d=35∨d=66) (f:Bool) (at_:Int) (w:World) (h:Mach w B b ((76,p)::(d,q)::r) f at_) (hl:r.length≤99970) (ha0:0≤at_) (ha1:at_≤1000000000) :
    Calls Tryz.prog 95 #[.pointer (some ⟨b,0,none⟩),.int .u8 ((c:UInt8).toNat:Int)] w (Mo w B b (.tuple #[]) (rPlain ((d,q)::r) f d c at_).1 (rPlain ((d,q)::r) f d c at_).2 (at_+1)):=by
  obtain⟨n,hn⟩:∃n,((d,q)::r:Stk).length=n:=⟨_,rfl⟩
  obtain⟨g,cap,t0,t1,t2,t3⟩:=h.top (n:=n) (m:=12) hn rfl
  have HM:=Lib.hid h
  have HL:=Lib.hid hl
  have HN:=Lib.hid hn
  clear h hl hn
  have z0:(((n:Int)+1)==0)=false:=by rw[beq_eq_false_iff_ne];omega
  have Hd:=Lib.hid hd
  have HT:=Lib.hid (And.intro ht hc)
  clear hd ht hc
  obtain⟨k,hk⟩:∃k,r.length=k:=⟨_,rfl⟩
  have HK:=Lib.hid hk
  clear hk
  go_enter Tryz.func95,Tryz.ntmps95
  go_step3
  go_wp2
  go_step3
  go_wp2
  refine wp_loop_rounds 2 ?_
  rw[rounds_succ]
  go_wp2_with fail
  go_quiet (fail)
  go_wp2_with (first
    | (go_at_call 125
       refine(do_x B b r p q d c f at_ _ (HM.out.drewN _) (by have h2:=HL.out;omega) hc40 hc123 hc36).mono ?_
       rintro e w1 ⟨rfl,hm1,hb1⟩
       obtain⟨x0,x1,x2,x3,x4⟩:=hm1.cells
       obtain⟨g1,cap1,s0,s1,s2,s3⟩:=hm1.top (n:=k) (m:=m) HK.out Hd.out
       have HM1:=Lib.hid (And.intro hm1 hb1)
       clear hm1 hb1))
  rw[rounds_succ]
  go_wp2_with fail
  go_quiet (fail)
  go_wp2_with (first
    | (go_at_call 128
       refine(plain_m B b r d q m c f at_ _ Hd.out (HM1.out.1.drewN _) (by have h2:=HL.out;omega) HT.out.1 HT.out.2).mono ?_
       rintro e w2 ⟨rfl,hm2,hb2⟩
       obtain⟨x0,x1,x2,x3,x4⟩:=hm2.cells
       have HM2:=Lib.hid (And.intro hm2 hb2)
       clear hm2 hb2))
  rw[Exit.noGoto_normal]
  go_end0
  exact mo_at2 HM2.out.1 (BM.drewN (BM.refl _ _) _) HM1.out.2 ((BM.drewN (BM.refl _ _) _).trans HM2.out.2) rfl rfl
set_option maxHeartbeats 1000000 in
theorem fd_79_40 (B b:Nat) (r:Stk) (p:Int) (f:Bool) (at_:Int) (w:World) (h:Mach w B b ((79,p)::r) f at_) (hl:r.length≤99970) (ht:r≠[]) (ha0:0≤at_) (ha1:at_≤1000000000) :
    Calls Tryz.prog 95 #[.pointer (some ⟨b,0,none⟩),.int .u8 ((40:UInt8).toNat:Int)] w (Mo w B b (.tuple #[]) ((65,p)::r) false (at_+1)):=by
  obtain⟨n,hn⟩:∃n,r.length=n:=⟨_,rfl⟩
  obtain⟨g,cap,t0,t1,t2,t3⟩:=h.top (n:=n) (m:=3) hn rfl
  have HM:=Lib.hid h
  have HL:=Lib.hid hl
  have HN:=Lib.hid hn
  clear h hl hn
  have z0:(((n:Int)+1)==0)=false:=by rw[beq_eq_false_iff_ne];omega
  have Ht:=Lib.hid ht
  clear ht
  go_enter Tryz.func95,Tryz.ntmps95
  go_step3
  go_wp2
  go_step3
  go_wp2
  refine wp_loop_rounds 1 ?_
  rw[rounds_succ]
  go_wp2_with fail
  go_quiet (fail)
  go_wp2_with (first
    | (go_at_call 126
       refine(become_k B b _ _ _ _ _ 65 9 _ rfl (HM.out.drewN _)).mono ?_
       rintro e w1 ⟨rfl,hm1,hb1⟩
       obtain⟨x0,x1,x2,x3,x4⟩:=hm1.cells
       have HM1:=Lib.hid (And.intro hm1 hb1)
       clear hm1 hb1))
  rw[Exit.noGoto_normal]
  go_end0
  exact mo_at (HM1.out.1.setFresh _) (BM.drewN (BM.refl _ _) _) (BM.setCell HM1.out.2 HM1.out.1 _) rfl rfl
set_option maxHeartbeats 1000000 in
theorem fd_69_41 (B b:Nat) (r:Stk) (p:Int) (f:Bool) (at_:Int) (w:World) (h:Mach w B b ((69,p)::r) f at_) (hl:r.length≤99970) (ht:r≠[]) (ha0:0≤at_) (ha1:at_≤1000000000) :
    Calls Tryz.prog 95 #[.pointer (some ⟨b,0,none⟩),.int .u8 ((41:UInt8).toNat:Int)] w (Mo w B b (.tuple #[]) r f (at_+1)):=by
  obtain⟨n,hn⟩:∃n,r.length=n:=⟨_,rfl⟩
  obtain⟨g,cap,t0,t1,t2,t3⟩:=h.top (n:=n) (m:=11) hn rfl
  have HM:=Lib.hid h
  have HL:=Lib.hid hl
  have HN:=Lib.hid hn
  clear h hl hn
  have z0:(((n:Int)+1)==0)=false:=by rw[beq_eq_false_iff_ne];omega
  have Ht:=Lib.hid ht
  clear ht
  go_enter Tryz.func95,Tryz.ntmps95
  go_step3
  go_wp2
  go_step3
  go_wp2
  refine wp_loop_rounds 1 ?_
  rw[rounds_succ]
  go_wp2_with fail
  go_quiet (fail)
  go_wp2_with (first
    | (go_at_call 127
       refine(shut_m B b _ _ _ _ _ _ (HM.out.drewN _) Ht.out).mono ?_
       rintro e w1 ⟨rfl,hm1,hb1⟩
       obtain⟨x0,x1,x2,x3,x4⟩:=hm1.cells
       have HM1:=Lib.hid (And.intro hm1 hb1)
       clear hm1 hb1))
  rw[Exit.noGoto_normal]
  go_end0
  exact mo_at HM1.out.1 (BM.drewN (BM.refl _ _) _) HM1.out.2 rfl rfl
set_option maxHeartbeats 1000000 in
theorem fd_79_x (B b:Nat) (r:Stk) (p:Int) (c:UInt8) (hc40:((c.toNat:Int)==40)=false) (f:Bool) (at_:Int) (w:World) (h:Mach w B b ((79,p)::r) f at_) (hl:r.length≤99970) (ht:r≠[]) (ha0:0≤at_) (ha1:at_≤1000000000) :
    Calls Tryz.prog 95 #[.pointer (some ⟨b,0,none⟩),.int .u8 ((c:UInt8).toNat:Int)] w (Mo w B b (.tuple #[]) (rPlain ((67,p)::r) f 67 c at_).1 (rPlain ((67,p)::r) f 67 c at_).2 (at_+1)):=by
  obtain⟨n,hn⟩:∃n,r.length=n:=⟨_,rfl⟩
  obtain⟨g,cap,t0,t1,t2,t3⟩:=h.top (n:=n) (m:=3) hn rfl
  have HM:=Lib.hid h
  have HL:=Lib.hid hl
  have HN:=Lib.hid hn
  clear h hl hn
  have z0:(((n:Int)+1)==0)=false:=by rw[beq_eq_false_iff_ne];omega
  have Ht:=Lib.hid ht
  clear ht
  go_enter Tryz.func95,Tryz.ntmps95
  go_step3
  go_wp2
  go_step3
  go_wp2
  refine wp_loop_rounds 2 ?_
  rw[rounds_succ]
  go_wp2_with fail
  go_quiet (fail)
  go_wp2_with (first
    | (go_at_call 126
       refine(become_k B b _ _ _ _ _ 67 1 _ rfl (HM.out.drewN _)).mono ?_
       rintro e w1 ⟨rfl,hm1,hb1⟩
       obtain⟨x0,x1,x2,x3,x4⟩:=hm1.cells
       obtain⟨g1,cap1,s0,s1,s2,s3⟩:=hm1.top (n:=n) (m:=1) HN.out rfl
       have HM1:=Lib.hid (And.intro hm1 hb1)
       clear hm1 hb1))
  rw[rounds_succ]
  go_wp2_with fail
  go_quiet (fail)
  go_wp2_with (first
    | (go_at_call 128
       refine(plain_m B b r 67 p 1 c f at_ _ rfl (HM1.out.1.drewN _) (by have h1:=HN.out;have h2:=HL.out;omega) (fun _=>Ht.out) (by decide)).mono ?_
       rintro e w2 ⟨rfl,hm2,hb2⟩
       obtain⟨x0,x1,x2,x3,x4⟩:=hm2.cells
       have HM2:=Lib.hid (And.intro hm2 hb2)
       clear hm2 hb2))
  rw[Exit.noGoto_normal]
  go_end0
  exact mo_at2 HM2.out.1 (BM.drewN (BM.refl _ _) _) HM1.out.2 ((BM.drewN (BM.refl _ _) _).trans HM2.out.2) rfl rfl
set_option maxHeartbeats 1000000 in
theorem fd_69_x (B b:Nat) (r:Stk) (p:Int) (c:UInt8) (hc41:((c.toNat:Int)==41)=false) (f:Bool) (at_:Int) (w:World) (h:Mach w B b ((69,p)::r) f at_) (hl:r.length≤99970) (ht:r≠[]) (ha0:0≤at_) (ha1:at_≤1000000000) :
    Calls Tryz.prog 95 #[.pointer (some ⟨b,0,none⟩),.int .u8 ((c:UInt8).toNat:Int)] w (Mo w B b (.tuple #[]) (rPlain ((65,p)::r) f 65 c at_).1 (rPlain ((65,p)::r) f 65 c at_).2 (at_+1)):=by
  obtain⟨n,hn⟩:∃n,r.length=n:=⟨_,rfl⟩
  obtain⟨g,cap,t0,t1,t2,t3⟩:=h.top (n:=n) (m:=11) hn rfl
  have HM:=Lib.hid h
  have HL:=Lib.hid hl
  have HN:=Lib.hid hn
  clear h hl hn
  have z0:(((n:Int)+1)==0)=false:=by rw[beq_eq_false_iff_ne];omega
  have Ht:=Lib.hid ht
  clear ht
  go_enter Tryz.func95,Tryz.ntmps95
  go_step3
  go_wp2
  go_step3
  go_wp2
  refine wp_loop_rounds 2 ?_
  rw[rounds_succ]
  go_wp2_with fail
  go_quiet (fail)
  go_wp2_with (first
    | (go_at_call 126
       refine(become_k B b _ _ _ _ _ 65 9 _ rfl (HM.out.drewN _)).mono ?_
       rintro e w1 ⟨rfl,hm1,hb1⟩
       obtain⟨x0,x1,x2,x3,x4⟩:=hm1.cells
       obtain⟨g1,cap1,s0,s1,s2,s3⟩:=hm1.top (n:=n) (m:=9) HN.out rfl
       have HM1:=Lib.hid (And.intro hm1 hb1)
       clear hm1 hb1))
  rw[rounds_succ]
  go_wp2_with fail
  go_quiet (fail)
  go_wp2_with (first
    | (go_at_call 128
       refine(plain_m B b r 65 p 9 c f at_ _ rfl (HM1.out.1.drewN _) (by have h1:=HN.out;have h2:=HL.out;omega) (fun _=>Ht.out) (by decide)).mono ?_
       rintro e w2 ⟨rfl,hm2,hb2⟩
       obtain⟨x0,x1,x2,x3,x4⟩:=hm2.cells
       have HM2:=Lib.hid (And.intro hm2 hb2)
       clear hm2 hb2))
  rw[Exit.noGoto_normal]
  go_end0
  exact mo_at2 HM2.out.1 (BM.drewN (BM.refl _ _) _) HM1.out.2 ((BM.drewN (BM.refl _ _) _).trans HM2.out.2) rfl rfl
end Go.Proofs.YtlbfdbinaekjoaaGreatDoor
namespace Go.Proofs.YtlbfdbinaekjoaaGreatDoor
open Go.RowKit
set_option linter.unusedVariables false
set_option linter.unusedSimpArgs false
set_option maxRecDepth 100000
theorem val_cases (c:UInt8) (h:Val c=true) (h1:c≠76) (h2:c≠79) (h3:c≠69):c=84∨c=67∨c=80∨c=65∨c=82∨c=68∨c=73∨c=86∨c=88∨c=83∨c=35∨c=66:=by
  have:=byte_all (fun c => !Val c||c==76||c==79||c==69||c==84||c==67||c==80||c==65||c==82||c==68||c==73||c==86||c==88||c==83||c==35||c==66) (by decide +kernel) c
  simp only[h,Bool.not_true,Bool.false_or,Bool.or_eq_true,beq_iff_eq,h1,h2,h3,false_or] at this
  simpa [or_assoc] using this
theorem mode_ne (c:UInt8) (k:Int) (l:UInt8) (hk:modeOf l=k) (hl:(List.range 256).all (fun n=>modeOf (UInt8.ofNat n)!=modeOf l||UInt8.ofNat n==l)=true) (h:c≠l):(modeOf c==k)=false:=by
  have:=byte_all (fun c=>modeOf c != modeOf l||c==l) hl c
  rw[←hk]
  simp[h] at this
  simpa using this
theorem feed_m (B b:Nat) (st:Stk) (y:UInt8) (f:Bool) (at_:Int) (w:World) (h:Mach w B b st f at_) (hbot:Bot st) (hv:Vst st) (hl:st.length≤99960) (ha0:0≤at_) (ha1:at_≤1000000000) :
    Calls Tryz.prog 95 #[.pointer (some ⟨b,0,none⟩),.int .u8 (y.toNat:Int)] w (Mo w B b (.tuple #[]) (rStep st f y at_).1 (rStep st f y at_).2 (at_+1)):=by
  match st,hbot,hv with
  | (c,p)::r,hbot,hv=>
    simp only[List.length_cons] at hl
    have hne:c≠84→r≠[]:=fun hc=>(hbot.tail hc).ne
    rcases Decidable.em (c=76) with rfl|h76
    ·match r,hbot,hv with
     | [],hbot,_=>exact absurd hbot.single (by decide)
     | (d,q)::r2,hbot,hv=>
       simp only[List.length_cons] at hl
       have hd:=hv.2 (d,q) (by simp)
       have hdv:=mid_val d hd
       obtain⟨d1,d2,d3⟩:=mid_ne d hd
       have e76:d≠76:=fun e=>d3 (by rw[e];rfl)
       have e79:d≠79:=fun e=>d1 (by rw[e];rfl)
       have e69:d≠69:=fun e=>d2 (by rw[e];rfl)
       have hne2:d≠84→r2≠[]:=fun hc=>((hbot.tail (by decide)).tail hc).ne
       rcases Decidable.em (y=40) with rfl|hy40
       ·exact fd_76_40 B b r2 p q d f at_ w h (by omega) ha0 ha1
       rcases Decidable.em (y=36) with rfl|hy36
       ·have e:rStep ((76,p)::(d,q)::r2) f 36 at_=((d,q)::r2,f):=by simp[rStep]
        rw[e]
        exact fd_76_36 B b r2 p q d f at_ w h (by omega) ha0 ha1
       have n40:y.toNat≠40:=nn hy40
       have n36:y.toNat≠36:=nn hy36
       rcases Decidable.em (y=123) with rfl|hy123
       ·rcases Decidable.em (d=68) with rfl|hd68
        ·exact fd_76_123_5 B b r2 p q 68 rfl f at_ w h (by omega) ha0 ha1
        rcases Decidable.em (d=73) with rfl|hd73
        ·exact fd_76_123_8 B b r2 p q 73 rfl f at_ w h (by omega) ha0 ha1
        have n1:d.toNat≠68:=nn hd68
        have n2:d.toNat≠73:=nn hd73
        have e:rStep ((76,p)::(d,q)::r2) f 123 at_=((86,p)::(d,q)::r2,f):=by simp[rStep,n1,n2]
        rw[e]
        exact fd_76_123_x B b r2 p q d (modeOf d) rfl (mode_ne d 5 68 rfl (by decide +kernel) hd68) (mode_ne d 8 73 rfl (by decide +kernel) hd73) f at_ w h (by omega) ha0 ha1
       have n123:y.toNat≠123:=nn hy123
       have e:rStep ((76,p)::(d,q)::r2) f y at_=rPlain ((d,q)::r2) f d y at_:=by simp[rStep,n40,n36,n123]
       rw[e]
       exact fd_76_x B b r2 p q d (modeOf d) y (bf y 40 hy40) (bf y 123 hy123) (bf y 36 hy36) rfl (mode_ne d 12 76 rfl (by decide +kernel) e76) (mode_ne d 3 79 rfl (by decide +kernel) e79) (mode_ne d 11 69 rfl (by decide +kernel) e69) hne2 (val_cases d hdv e76 e79 e69) f at_ w h (by omega) ha0 ha1
    rcases Decidable.em (c=79) with rfl|h79
    ·rcases Decidable.em (y=40) with rfl|hy40
     ·exact fd_79_40 B b r p f at_ w h (by omega) (hne (by decide)) ha0 ha1
     have n40:y.toNat≠40:=nn hy40
     have e:rStep ((79,p)::r) f y at_=rPlain ((67,p)::r) f 67 y at_:=by simp[rStep,n40]
     rw[e]
     exact fd_79_x B b r p y (bf y 40 hy40) f at_ w h (by omega) (hne (by decide)) ha0 ha1
    rcases Decidable.em (c=69) with rfl|h69
    ·rcases Decidable.em (y=41) with rfl|hy41
     ·exact fd_69_41 B b r p f at_ w h (by omega) (hne (by decide)) ha0 ha1
     have n41:y.toNat≠41:=nn hy41
     have e:rStep ((69,p)::r) f y at_=rPlain ((65,p)::r) f 65 y at_:=by simp[rStep,n41]
     rw[e]
     exact fd_69_x B b r p y (bf y 41 hy41) f at_ w h (by omega) (hne (by decide)) ha0 ha1
    have n76:c.toNat≠76:=nn h76
    have n79:c.toNat≠79:=nn h79
    have n69:c.toNat≠69:=nn h69
    have e:rStep ((c,p)::r) f y at_=rPlain ((c,p)::r) f c y at_:=by simp[rStep,n76,n79,n69]
    rw[e]
    exact feed_e B b r p (modeOf c) c y f at_ w h (by omega) rfl (mode_ne c 12 76 rfl (by decide +kernel) h76) (mode_ne c 3 79 rfl (by decide +kernel) h79) (mode_ne c 11 69 rfl (by decide +kernel) h69) hne (val_cases c hv.1 h76 h79 h69) ha0 ha1
end Go.Proofs.YtlbfdbinaekjoaaGreatDoor
namespace Go.Proofs.YtlbfdbinaekjoaaGreatDoor
open Go.RowKit
set_option linter.unusedVariables false
set_option linter.unusedSimpArgs false
set_option maxRecDepth 100000
def Fr (w:World) (B:Nat) (v:Value) (st:Stk):Prop:=w.ownsRow B 138 2 v st.length (fcells st)
theorem one_frames (st:Stk):∀u∈fcells st,u.oneCell'=true:=by
  induction st with
  | nil=>intro u hu;cases hu
  | cons x st ih=>
    obtain⟨c,p⟩:=x
    intro u hu
    rw[fcells_cons] at hu
    rcases List.mem_append.1 hu with h|h
    ·exact ih u h
    ·simp at h;rcases h with rfl|rfl<;>rfl
theorem clone_m (st:Stk) (A:Addr) (n c:Nat) (w:World) (h:Rd w w.heap.size 2 (.slice (some A) n c) n (fcells st)) (hl:n≤100000) :
    Calls Tryz.prog 155 #[.slice (some A) n c] w fun e w'=>∃v,e=.returned v∧w'.ownsRow w.heap.size 138 2 v n (fcells st)∧Below w.heap.size w w':=by
  obtain⟨i0,hi,hz0,hz1,hz2⟩:=info_parts Tryz.infoFrame
  have H:=Lib.hid h
  clear h
  have hnil:=fun (W:World)=>Lib.run_eql_slice_nil (P:=Tryz.prog) W
  go_enter Tryz.func155,Tryz.ntmps155
  go_wp2_with (first
    | (at_builtin
       refine wpList_append_rd rfl (.tmp 5) (.tmp 6) 108 rfl w.heap.size 138 i0 _ 2 16 Tryz.underlying108 hi hz0 hz1 hz2 rfl (by decide) (.slice (some ⟨w.heap.size,0,none⟩) 0 0) 0 [] rfl (World.ownsRow_made _ _ _ (Nat.le_refl _) (by unfold maxLen;omega) (by simp)) (.slice (some A) n c) n w.heap.size (fcells st) rfl (H.out.keep (by go_grown) (Nat.le_refl _)) (one_frames st) (by unfold maxLen;omega) (by omega) (by simp) ?_
       intro v1 w1 hown1 hg1 hv1))
  go_ret
  exact⟨v1,rfl,by simpa using hown1,((Below.refl _ _).alloc (Nat.le_refl _) _).grown hg1 (by simp) (by intro k hk;simp[Value.ownBlock] at hk;omega)⟩
theorem frames_m (B b:Nat) (st:Stk) (f:Bool) (at_:Int) (w:World) (h:Mach w B b st f at_) (hne:st≠[]) (hl:st.length≤100000) :
    Calls Tryz.prog 129 #[.pointer (some ⟨b,0,none⟩)] w fun e w'=>∃g c,e=.returned (.slice (some ⟨g,0,none⟩) st.length c)∧Fr w' w.heap.size (.slice (some ⟨g,0,none⟩) st.length c) st∧Below w.heap.size w w':=by
  obtain⟨h1,g,cap,h2,h3⟩:=h
  have c0:w.cell? ⟨b,0,none⟩=some (.slice (some ⟨g,0,none⟩) st.length cap):=by rw[h2.cell];rfl
  have hr:=Rd.of_own h3
  have HR:=Lib.hid hr
  have z0:(((st.length:Nat):Int)==0)=false:=by
    rw[beq_eq_false_iff_ne]
    have:=List.length_pos_iff.2 hne
    omega
  obtain⟨k,hk⟩:∃k,st.length=k+1:=⟨st.length-1,by have:=List.length_pos_iff.2 hne;omega⟩
  have HK:=Lib.hid hk
  clear h1 h2 h3 hr hne hk
  go_enter Tryz.func129,Tryz.ntmps129
  go_wp2_with (go_at_call 155
               refine(clone_m st _ _ _ _ HR.out hl).mono ?_
               rintro e w1 ⟨v,rfl,hown,hb⟩)
  go_ret
  have hk:=HK.out
  rw[hk] at hown
  obtain⟨g',c',rfl⟩:=own_some hown
  refine⟨g',c',by rw[hk];rfl,?_,hb⟩
  unfold Fr
  rw[hk]
  exact hown
theorem fresh_m (B b:Nat) (st:Stk) (f:Bool) (at_:Int) (w:World) (h:Mach w B b st f at_) (hne:st≠[]) :
    Calls Tryz.prog 130 #[.pointer (some ⟨b,0,none⟩)] w fun e w'=>e=.returned (.bool f)∧w=w':=by
  obtain⟨h1,g,cap,h2,h3⟩:=h
  have c0:w.cell? ⟨b,0,none⟩=some (.slice (some ⟨g,0,none⟩) st.length cap):=by rw[h2.cell];rfl
  have c1:w.cell? ⟨b,1,none⟩=some (.bool f):=by rw[h2.cell];rfl
  have z0:(((st.length:Nat):Int)==0)=false:=by
    rw[beq_eq_false_iff_ne]
    have:=List.length_pos_iff.2 hne
    omega
  clear h1 h2 h3 hne
  cases f
  all_goals (
    go_enter Tryz.func130,Tryz.ntmps130
    go_wp2
    go_ret
    first|exact⟨rfl,rfl⟩|exact⟨rfl,trivial⟩|simp)
theorem rAt_succ (l:List UInt8) (k:Nat) (hlt:k<l.length):rAt l (k+1)=rStep (rAt l k).1 (rAt l k).2 ((ByteArray.mk l.toArray)[k]'hlt) k:=by
  show rStep _ _ (l.getD k 0) _=_
  rw[ba_get,List.getD_eq_getElem?_getD,List.getElem?_eq_getElem hlt]
  rfl
def RunPost (l:List UInt8) (w:World) (e:Ending) (w':World):Prop:=
  ∃g c,e=.returned (.tuple #[.slice (some ⟨g,0,none⟩) (rAt l l.length).1.length c,.bool (rAt l l.length).2])∧Fr w' w.heap.size (.slice (some ⟨g,0,none⟩) (rAt l l.length).1.length c) (rAt l l.length).1∧Below w.heap.size w w'
theorem run_m (l:List UInt8) (w:World) (hl:l.length≤90000):Calls Tryz.prog 96 #[.string ⟨l.toArray⟩] w (RunPost l w):=by
  go_enter Tryz.func96,Tryz.ntmps96
  go_wp2_with (go_at_call 93;refine(new_m _).mono ?_
               rintro e w1 ⟨b,rfl,hm1,hb1⟩)
  have H1:=Lib.hid (And.intro hm1 hb1)
  clear hm1 hb1
  go_loopw [9] (fun i wr=>∃k:Nat,k≤l.length∧i=.int .i64 k∧Mach wr w.heap.size b (rAt l k).1 (rAt l k).2 k∧Below w.heap.size w wr) (fun i _=>l.length-(intOf i).toNat)
  case atStart=>exact⟨0,by omega,rfl,H1.out.1,H1.out.2⟩
  case round=>
    obtain⟨k,hk,rfl,hm,hb⟩:=hrel
    have hbot:=rAt_bot l k
    have hv:=rAt_v l k
    have hlen:=rAt_len l k
    have HR:=Lib.hid (And.intro hm (And.intro hb (And.intro hbot hv)))
    clear hm hb hbot hv
    by_cases hlt:k<l.length
    ·have hi0:(0:Int)≤(k:Int):=by omega
     have hi1:(k:Int)<(l.length:Int):=by omega
     go_wp2_with (go_at_call 95
                  refine(feed_m w.heap.size b _ _ _ _ _ HR.out.1 HR.out.2.2.1 HR.out.2.2.2 (by omega) (by omega) (by omega)).mono ?_
                  rintro e w2 ⟨rfl,hm2,hb2⟩
                  have H2:=Lib.hid (And.intro hm2 hb2)
                  clear hm2 hb2)
     have e:=rAt_succ l k hlt
     obtain⟨hm2,hb2⟩:=H2.out
     rw[←e] at hm2
     exact⟨⟨k+1,by omega,by go_num,by simpa using hm2,HR.out.2.1.trans hb2.b⟩,by simp[intOf];omega⟩
    ·have e:k=l.length:=by omega
     subst e
     go_wp2_with (first
       | (go_at_call 129
          refine(frames_m w.heap.size b _ _ _ _ HR.out.1 HR.out.2.2.1.ne (by omega)).mono ?_
          rintro e w2 ⟨g,c,rfl,hfr,hb2⟩
          have H2:=Lib.hid (And.intro hfr hb2)
          clear hfr hb2)
       | (go_at_call 130
          refine(fresh_m w.heap.size b _ _ _ _ (HR.out.1.below H2.out.2) HR.out.2.2.1.ne).mono ?_
          rintro e w3 ⟨rfl,rfl⟩))
     go_ret2
     exact⟨g,c,rfl,own_base H2.out.1 HR.out.2.1.size,HR.out.2.1.trans (H2.out.2.mono HR.out.2.1.size)⟩
theorem fcells_at (st:Stk):∀(k:Nat) (c:UInt8) (p:Int),st.reverse[k]? = some (c,p)→(fcells st)[k*2]? = some (.int .i64 (modeOf c))∧(fcells st)[k*2+1]? = some (.int .i64 p):=by
  intro k c p
  unfold fcells
  generalize st.reverse=l
  induction l generalizing k with
  | nil=>intro h;simp at h
  | cons x l ih=>
    intro h
    cases k with
    | zero=>simp at h;subst h;simp
    | succ k=>
      have:=ih k (by simpa using h)
      rw[show (k+1)*2=k*2+2 by omega]
      simpa using this
theorem Vst.all {st:Stk} (h:Vst st):∀x∈st,Val x.1=true:=by
  cases st with
  | nil=>intro x hx;cases hx
  | cons y r=>
    obtain⟨c,p⟩:=y
    intro x hx
    rcases List.mem_cons.1 hx with rfl|hx
    ·exact h.1
    ·exact mid_val _ (h.2 x hx)
end Go.Proofs.YtlbfdbinaekjoaaGreatDoor
