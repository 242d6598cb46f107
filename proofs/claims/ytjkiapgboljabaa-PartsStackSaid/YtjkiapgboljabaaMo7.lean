/- The program's machine: a byte comes (modes.Feed): the stack is what rStep says. -/
import Derived.Test.YtjkiapgboljabaaMo6
namespace Go.Proofs.Ytjkiapgboljabaa
open Go.RowKit
set_option linter.unusedVariables false
set_option linter.unusedSimpArgs false
set_option maxRecDepth 100000
theorem Mach.top {w : World} {B b : Nat} {st : Stk} {f : Bool} {at_ p m : Int} {c : UInt8} {n : Nat} (h : Mach w B b ((c, p) :: st) f at_) (hn : st.length = n) (hm : m = modeOf c) :
    ∃ g cap, w.cell? ⟨b, 0, none⟩ = some (.slice (some ⟨g, 0, none⟩) (n + 1) cap) ∧ w.cell? ⟨g, n * 2, none⟩ = some (.int .i64 m) ∧ n + 1 ≤ cap ∧ cap ≤ 9223372036854775807 := by
  subst hn hm
  obtain ⟨h1, g, cap, h2, h3⟩ := h
  have hle := own_le h3
  exact ⟨g, cap, by rw [h2.cell]; rfl, own_cell h3 _ _ (by rw [fcells_cons, List.getElem?_append_right (by rw [fcells_len]; omega)]; simp [fcells_len]), hle.2.1, by have := hle.2.2.1; unfold maxLen at this; omega⟩
theorem mo_at {w w0 w' : World} {B b : Nat} {st st' : Stk} {f f' : Bool} {at_ : Int} (h : Mach w' B b st' f' at_) (hb0 : BM B w w0) (hb : BM B w0 w') (hs : st' = st) (hf : f' = f) :
    Mo w B b (.tuple #[]) st f (at_ + 1) (.returned (.tuple #[])) (w'.setCell ⟨b, 2, none⟩ (.int .i64 (at_ + 1))) := by
  subst hs hf
  exact ⟨rfl, h.setAt _, BM.setCell (hb0.trans hb) h _⟩
theorem mo_at2 {w w0 w' w2 : World} {B b : Nat} {st st' : Stk} {f f' : Bool} {at_ : Int} (h : Mach w2 B b st' f' at_) (hb0 : BM B w w0) (hb : BM B w0 w') (hb2 : BM B w' w2) (hs : st' = st) (hf : f' = f) :
    Mo w B b (.tuple #[]) st f (at_ + 1) (.returned (.tuple #[])) (w2.setCell ⟨b, 2, none⟩ (.int .i64 (at_ + 1))) := mo_at h (hb0.trans hb) hb2 hs hf
set_option maxHeartbeats 1000000 in
theorem feed_e (B b : Nat) (r : Stk) (p m : Int) (c y : UInt8) (f : Bool) (at_ : Int) (w : World) (h : Mach w B b ((c, p) :: r) f at_) (hl : r.length ≤ 99980) (hm : m = modeOf c) (h12 : (m == 12) = false) (h3 : (m == 3) = false) (h11 : (m == 11) = false) (ht : c ≠ 84 → r ≠ []) (hc : c = 84 ∨ c = 67 ∨ c = 80 ∨ c = 65 ∨ c = 82 ∨ c = 68 ∨ c = 73 ∨ c = 86 ∨ c = 88 ∨ c = 83 ∨ c = 35 ∨ c = 66) (ha0 : 0 ≤ at_) (ha1 : at_ ≤ 1000000000) :
    Calls Try.prog 45 #[.pointer (some ⟨b, 0, none⟩), .int .u8 ((y : UInt8).toNat : Int)] w (Mo w B b (.tuple #[]) (rPlain ((c, p) :: r) f c y at_).1 (rPlain ((c, p) :: r) f c y at_).2 (at_ + 1)) := by
  obtain ⟨n, hn⟩ : ∃ n, r.length = n := ⟨_, rfl⟩
  obtain ⟨g, cap, t0, t1, t2, t3⟩ := h.top (n := n) (m := m) hn hm
  have HM := Lib.hid h
  have HL := Lib.hid hl
  have HN := Lib.hid hn
  clear h hl hn
  have z0 : (((n : Int) + 1) == 0) = false := by rw [beq_eq_false_iff_ne]; omega
  have HT := Lib.hid (And.intro hm (And.intro ht hc))
  clear hm ht hc
  go_enter Try.func45, Try.ntmps45
  go_step3
  go_wp2
  go_step3
  go_wp2
  refine wp_loop_rounds 1 ?_
  rw [rounds_succ]
  go_wp2_with fail
  go_quiet (fail)
  go_wp2_with (first
    | (go_at_call 74
       refine (plain_m B b r c p m y f at_ _ HT.out.1 (HM.out.drewN _) (by have h1 := HN.out; have h2 := HL.out; omega) HT.out.2.1 HT.out.2.2).mono ?_
       rintro e w1 ⟨rfl, hm1, hb1⟩
       obtain ⟨x0, x1, x2, x3, x4⟩ := hm1.cells
       have HM1 := Lib.hid (And.intro hm1 hb1)
       clear hm1 hb1))
  rw [Exit.noGoto_normal]
  go_end0
  exact mo_at HM1.out.1 (BM.drewN (BM.refl _ _) _) HM1.out.2 rfl rfl
set_option maxHeartbeats 1000000 in
theorem fd_76_40 (B b : Nat) (r : Stk) (p q : Int) (d : UInt8) (f : Bool) (at_ : Int) (w : World) (h : Mach w B b ((76, p) :: (d, q) :: r) f at_) (hl : r.length ≤ 99970) (ha0 : 0 ≤ at_) (ha1 : at_ ≤ 1000000000) :
    Calls Try.prog 45 #[.pointer (some ⟨b, 0, none⟩), .int .u8 ((40 : UInt8).toNat : Int)] w (Mo w B b (.tuple #[]) ((79, p) :: (d, q) :: r) true (at_ + 1)) := by
  obtain ⟨n, hn⟩ : ∃ n, ((d, q) :: r : Stk).length = n := ⟨_, rfl⟩
  obtain ⟨g, cap, t0, t1, t2, t3⟩ := h.top (n := n) (m := 12) hn rfl
  have HM := Lib.hid h
  have HL := Lib.hid hl
  have HN := Lib.hid hn
  clear h hl hn
  have z0 : (((n : Int) + 1) == 0) = false := by rw [beq_eq_false_iff_ne]; omega
  go_enter Try.func45, Try.ntmps45
  go_step3
  go_wp2
  go_step3
  go_wp2
  refine wp_loop_rounds 1 ?_
  rw [rounds_succ]
  go_wp2_with fail
  go_quiet (fail)
  go_wp2_with (first
    | (go_at_call 71
       refine (do_40 B b r p q d  f at_ _ (HM.out.drewN _) (by have h2 := HL.out; omega)).mono ?_
       rintro e w1 ⟨rfl, hm1, hb1⟩
       obtain ⟨x0, x1, x2, x3, x4⟩ := hm1.cells
       have HM1 := Lib.hid (And.intro hm1 hb1)
       clear hm1 hb1))
  rw [Exit.noGoto_normal]
  go_end0
  exact mo_at HM1.out.1 (BM.drewN (BM.refl _ _) _) HM1.out.2 rfl rfl
set_option maxHeartbeats 1000000 in
theorem fd_76_36 (B b : Nat) (r : Stk) (p q : Int) (d : UInt8) (f : Bool) (at_ : Int) (w : World) (h : Mach w B b ((76, p) :: (d, q) :: r) f at_) (hl : r.length ≤ 99970) (ha0 : 0 ≤ at_) (ha1 : at_ ≤ 1000000000) :
    Calls Try.prog 45 #[.pointer (some ⟨b, 0, none⟩), .int .u8 ((36 : UInt8).toNat : Int)] w (Mo w B b (.tuple #[]) ((d, q) :: r) f (at_ + 1)) := by
  obtain ⟨n, hn⟩ : ∃ n, ((d, q) :: r : Stk).length = n := ⟨_, rfl⟩
  obtain ⟨g, cap, t0, t1, t2, t3⟩ := h.top (n := n) (m := 12) hn rfl
  have HM := Lib.hid h
  have HL := Lib.hid hl
  have HN := Lib.hid hn
  clear h hl hn
  have z0 : (((n : Int) + 1) == 0) = false := by rw [beq_eq_false_iff_ne]; omega
  go_enter Try.func45, Try.ntmps45
  go_step3
  go_wp2
  go_step3
  go_wp2
  refine wp_loop_rounds 1 ?_
  rw [rounds_succ]
  go_wp2_with fail
  go_quiet (fail)
  go_wp2_with (first
    | (go_at_call 71
       refine (do_36 B b r p q d  f at_ _ (HM.out.drewN _) (by have h2 := HL.out; omega)).mono ?_
       rintro e w1 ⟨rfl, hm1, hb1⟩
       obtain ⟨x0, x1, x2, x3, x4⟩ := hm1.cells
       have HM1 := Lib.hid (And.intro hm1 hb1)
       clear hm1 hb1))
  rw [Exit.noGoto_normal]
  go_end0
  exact mo_at HM1.out.1 (BM.drewN (BM.refl _ _) _) HM1.out.2 rfl rfl
set_option maxHeartbeats 1000000 in
theorem fd_76_123_5 (B b : Nat) (r : Stk) (p q : Int) (d : UInt8) (hd : 5 = modeOf d) (f : Bool) (at_ : Int) (w : World) (h : Mach w B b ((76, p) :: (d, q) :: r) f at_) (hl : r.length ≤ 99970) (ha0 : 0 ≤ at_) (ha1 : at_ ≤ 1000000000) :
    Calls Try.prog 45 #[.pointer (some ⟨b, 0, none⟩), .int .u8 ((123 : UInt8).toNat : Int)] w (Mo w B b (.tuple #[]) ((73, p) :: (d, q) :: r) f (at_ + 1)) := by
  obtain ⟨n, hn⟩ : ∃ n, ((d, q) :: r : Stk).length = n := ⟨_, rfl⟩
  obtain ⟨g, cap, t0, t1, t2, t3⟩ := h.top (n := n) (m := 12) hn rfl
  have HM := Lib.hid h
  have HL := Lib.hid hl
  have HN := Lib.hid hn
  clear h hl hn
  have z0 : (((n : Int) + 1) == 0) = false := by rw [beq_eq_false_iff_ne]; omega
  have Hd := Lib.hid hd
  clear hd
  go_enter Try.func45, Try.ntmps45
  go_step3
  go_wp2
  go_step3
  go_wp2
  refine wp_loop_rounds 1 ?_
  rw [rounds_succ]
  go_wp2_with fail
  go_quiet (fail)
  go_wp2_with (first
    | (go_at_call 71
       refine (do_123_5 B b r p q d 5 f at_ _ (HM.out.drewN _) (by have h2 := HL.out; omega) Hd.out rfl).mono ?_
       rintro e w1 ⟨rfl, hm1, hb1⟩
       obtain ⟨x0, x1, x2, x3, x4⟩ := hm1.cells
       have HM1 := Lib.hid (And.intro hm1 hb1)
       clear hm1 hb1))
  rw [Exit.noGoto_normal]
  go_end0
  exact mo_at HM1.out.1 (BM.drewN (BM.refl _ _) _) HM1.out.2 rfl rfl
set_option maxHeartbeats 1000000 in
theorem fd_76_123_8 (B b : Nat) (r : Stk) (p q : Int) (d : UInt8) (hd : 8 = modeOf d) (f : Bool) (at_ : Int) (w : World) (h : Mach w B b ((76, p) :: (d, q) :: r) f at_) (hl : r.length ≤ 99970) (ha0 : 0 ≤ at_) (ha1 : at_ ≤ 1000000000) :
    Calls Try.prog 45 #[.pointer (some ⟨b, 0, none⟩), .int .u8 ((123 : UInt8).toNat : Int)] w (Mo w B b (.tuple #[]) ((73, p) :: (d, q) :: r) f (at_ + 1)) := by
  obtain ⟨n, hn⟩ : ∃ n, ((d, q) :: r : Stk).length = n := ⟨_, rfl⟩
  obtain ⟨g, cap, t0, t1, t2, t3⟩ := h.top (n := n) (m := 12) hn rfl
  have HM := Lib.hid h
  have HL := Lib.hid hl
  have HN := Lib.hid hn
  clear h hl hn
  have z0 : (((n : Int) + 1) == 0) = false := by rw [beq_eq_false_iff_ne]; omega
  have Hd := Lib.hid hd
  clear hd
  go_enter Try.func45, Try.ntmps45
  go_step3
  go_wp2
  go_step3
  go_wp2
  refine wp_loop_rounds 1 ?_
  rw [rounds_succ]
  go_wp2_with fail
  go_quiet (fail)
  go_wp2_with (first
    | (go_at_call 71
       refine (do_123_8 B b r p q d 8 f at_ _ (HM.out.drewN _) (by have h2 := HL.out; omega) Hd.out rfl).mono ?_
       rintro e w1 ⟨rfl, hm1, hb1⟩
       obtain ⟨x0, x1, x2, x3, x4⟩ := hm1.cells
       have HM1 := Lib.hid (And.intro hm1 hb1)
       clear hm1 hb1))
  rw [Exit.noGoto_normal]
  go_end0
  exact mo_at HM1.out.1 (BM.drewN (BM.refl _ _) _) HM1.out.2 rfl rfl
set_option maxHeartbeats 1000000 in
theorem fd_76_123_x (B b : Nat) (r : Stk) (p q : Int) (d : UInt8) (m : Int) (hd : m = modeOf d) (hm5 : (m == 5) = false) (hm8 : (m == 8) = false) (f : Bool) (at_ : Int) (w : World) (h : Mach w B b ((76, p) :: (d, q) :: r) f at_) (hl : r.length ≤ 99970) (ha0 : 0 ≤ at_) (ha1 : at_ ≤ 1000000000) :
    Calls Try.prog 45 #[.pointer (some ⟨b, 0, none⟩), .int .u8 ((123 : UInt8).toNat : Int)] w (Mo w B b (.tuple #[]) ((86, p) :: (d, q) :: r) f (at_ + 1)) := by
  obtain ⟨n, hn⟩ : ∃ n, ((d, q) :: r : Stk).length = n := ⟨_, rfl⟩
  obtain ⟨g, cap, t0, t1, t2, t3⟩ := h.top (n := n) (m := 12) hn rfl
  have HM := Lib.hid h
  have HL := Lib.hid hl
  have HN := Lib.hid hn
  clear h hl hn
  have z0 : (((n : Int) + 1) == 0) = false := by rw [beq_eq_false_iff_ne]; omega
  have Hd := Lib.hid hd
  clear hd
  go_enter Try.func45, Try.ntmps45
  go_step3
  go_wp2
  go_step3
  go_wp2
  refine wp_loop_rounds 1 ?_
  rw [rounds_succ]
  go_wp2_with fail
  go_quiet (fail)
  go_wp2_with (first
    | (go_at_call 71
       refine (do_123_x B b r p q d m f at_ _ (HM.out.drewN _) (by have h2 := HL.out; omega) Hd.out hm5 hm8).mono ?_
       rintro e w1 ⟨rfl, hm1, hb1⟩
       obtain ⟨x0, x1, x2, x3, x4⟩ := hm1.cells
       have HM1 := Lib.hid (And.intro hm1 hb1)
       clear hm1 hb1))
  rw [Exit.noGoto_normal]
  go_end0
  exact mo_at HM1.out.1 (BM.drewN (BM.refl _ _) _) HM1.out.2 rfl rfl
set_option maxHeartbeats 1000000 in
theorem fd_76_x (B b : Nat) (r : Stk) (p q : Int) (d : UInt8) (m : Int) (c : UInt8) (hc40 : ((c.toNat : Int) == 40) = false) (hc123 : ((c.toNat : Int) == 123) = false) (hc36 : ((c.toNat : Int) == 36) = false) (hd : m = modeOf d) (h12 : (m == 12) = false) (h3 : (m == 3) = false) (h11 : (m == 11) = false) (ht : d ≠ 84 → r ≠ []) (hc : d = 84 ∨ d = 67 ∨ d = 80 ∨ d = 65 ∨ d = 82 ∨ d = 68 ∨ d = 73 ∨ d = 86 ∨ d = 88 ∨ d = 83 ∨ d = 35 ∨ d = 66) (f : Bool) (at_ : Int) (w : World) (h : Mach w B b ((76, p) :: (d, q) :: r) f at_) (hl : r.length ≤ 99970) (ha0 : 0 ≤ at_) (ha1 : at_ ≤ 1000000000) :
    Calls Try.prog 45 #[.pointer (some ⟨b, 0, none⟩), .int .u8 ((c : UInt8).toNat : Int)] w (Mo w B b (.tuple #[]) (rPlain ((d, q) :: r) f d c at_).1 (rPlain ((d, q) :: r) f d c at_).2 (at_ + 1)) := by
  obtain ⟨n, hn⟩ : ∃ n, ((d, q) :: r : Stk).length = n := ⟨_, rfl⟩
  obtain ⟨g, cap, t0, t1, t2, t3⟩ := h.top (n := n) (m := 12) hn rfl
  have HM := Lib.hid h
  have HL := Lib.hid hl
  have HN := Lib.hid hn
  clear h hl hn
  have z0 : (((n : Int) + 1) == 0) = false := by rw [beq_eq_false_iff_ne]; omega
  have Hd := Lib.hid hd
  have HT := Lib.hid (And.intro ht hc)
  clear hd ht hc
  obtain ⟨k, hk⟩ : ∃ k, r.length = k := ⟨_, rfl⟩
  have HK := Lib.hid hk
  clear hk
  go_enter Try.func45, Try.ntmps45
  go_step3
  go_wp2
  go_step3
  go_wp2
  refine wp_loop_rounds 2 ?_
  rw [rounds_succ]
  go_wp2_with fail
  go_quiet (fail)
  go_wp2_with (first
    | (go_at_call 71
       refine (do_x B b r p q d c f at_ _ (HM.out.drewN _) (by have h2 := HL.out; omega) hc40 hc123 hc36).mono ?_
       rintro e w1 ⟨rfl, hm1, hb1⟩
       obtain ⟨x0, x1, x2, x3, x4⟩ := hm1.cells
       obtain ⟨g1, cap1, s0, s1, s2, s3⟩ := hm1.top (n := k) (m := m) HK.out Hd.out
       have HM1 := Lib.hid (And.intro hm1 hb1)
       clear hm1 hb1))
  rw [rounds_succ]
  go_wp2_with fail
  go_quiet (fail)
  go_wp2_with (first
    | (go_at_call 74
       refine (plain_m B b r d q m c f at_ _ Hd.out (HM1.out.1.drewN _) (by have h2 := HL.out; omega) HT.out.1 HT.out.2).mono ?_
       rintro e w2 ⟨rfl, hm2, hb2⟩
       obtain ⟨x0, x1, x2, x3, x4⟩ := hm2.cells
       have HM2 := Lib.hid (And.intro hm2 hb2)
       clear hm2 hb2))
  rw [Exit.noGoto_normal]
  go_end0
  exact mo_at2 HM2.out.1 (BM.drewN (BM.refl _ _) _) HM1.out.2 ((BM.drewN (BM.refl _ _) _).trans HM2.out.2) rfl rfl
set_option maxHeartbeats 1000000 in
theorem fd_79_40 (B b : Nat) (r : Stk) (p : Int) (f : Bool) (at_ : Int) (w : World) (h : Mach w B b ((79, p) :: r) f at_) (hl : r.length ≤ 99970) (ht : r ≠ []) (ha0 : 0 ≤ at_) (ha1 : at_ ≤ 1000000000) :
    Calls Try.prog 45 #[.pointer (some ⟨b, 0, none⟩), .int .u8 ((40 : UInt8).toNat : Int)] w (Mo w B b (.tuple #[]) ((65, p) :: r) false (at_ + 1)) := by
  obtain ⟨n, hn⟩ : ∃ n, r.length = n := ⟨_, rfl⟩
  obtain ⟨g, cap, t0, t1, t2, t3⟩ := h.top (n := n) (m := 3) hn rfl
  have HM := Lib.hid h
  have HL := Lib.hid hl
  have HN := Lib.hid hn
  clear h hl hn
  have z0 : (((n : Int) + 1) == 0) = false := by rw [beq_eq_false_iff_ne]; omega
  have Ht := Lib.hid ht
  clear ht
  go_enter Try.func45, Try.ntmps45
  go_step3
  go_wp2
  go_step3
  go_wp2
  refine wp_loop_rounds 1 ?_
  rw [rounds_succ]
  go_wp2_with fail
  go_quiet (fail)
  go_wp2_with (first
    | (go_at_call 72
       refine (become_k B b _ _ _ _ _ 65 9 _ rfl (HM.out.drewN _)).mono ?_
       rintro e w1 ⟨rfl, hm1, hb1⟩
       obtain ⟨x0, x1, x2, x3, x4⟩ := hm1.cells
       have HM1 := Lib.hid (And.intro hm1 hb1)
       clear hm1 hb1))
  rw [Exit.noGoto_normal]
  go_end0
  exact mo_at (HM1.out.1.setFresh _) (BM.drewN (BM.refl _ _) _) (BM.setCell HM1.out.2 HM1.out.1 _) rfl rfl
set_option maxHeartbeats 1000000 in
theorem fd_69_41 (B b : Nat) (r : Stk) (p : Int) (f : Bool) (at_ : Int) (w : World) (h : Mach w B b ((69, p) :: r) f at_) (hl : r.length ≤ 99970) (ht : r ≠ []) (ha0 : 0 ≤ at_) (ha1 : at_ ≤ 1000000000) :
    Calls Try.prog 45 #[.pointer (some ⟨b, 0, none⟩), .int .u8 ((41 : UInt8).toNat : Int)] w (Mo w B b (.tuple #[]) r f (at_ + 1)) := by
  obtain ⟨n, hn⟩ : ∃ n, r.length = n := ⟨_, rfl⟩
  obtain ⟨g, cap, t0, t1, t2, t3⟩ := h.top (n := n) (m := 11) hn rfl
  have HM := Lib.hid h
  have HL := Lib.hid hl
  have HN := Lib.hid hn
  clear h hl hn
  have z0 : (((n : Int) + 1) == 0) = false := by rw [beq_eq_false_iff_ne]; omega
  have Ht := Lib.hid ht
  clear ht
  go_enter Try.func45, Try.ntmps45
  go_step3
  go_wp2
  go_step3
  go_wp2
  refine wp_loop_rounds 1 ?_
  rw [rounds_succ]
  go_wp2_with fail
  go_quiet (fail)
  go_wp2_with (first
    | (go_at_call 73
       refine (shut_m B b _ _ _ _ _ _ (HM.out.drewN _) Ht.out).mono ?_
       rintro e w1 ⟨rfl, hm1, hb1⟩
       obtain ⟨x0, x1, x2, x3, x4⟩ := hm1.cells
       have HM1 := Lib.hid (And.intro hm1 hb1)
       clear hm1 hb1))
  rw [Exit.noGoto_normal]
  go_end0
  exact mo_at HM1.out.1 (BM.drewN (BM.refl _ _) _) HM1.out.2 rfl rfl
set_option maxHeartbeats 1000000 in
theorem fd_79_x (B b : Nat) (r : Stk) (p : Int) (c : UInt8) (hc40 : ((c.toNat : Int) == 40) = false)  (f : Bool) (at_ : Int) (w : World) (h : Mach w B b ((79, p) :: r) f at_) (hl : r.length ≤ 99970) (ht : r ≠ []) (ha0 : 0 ≤ at_) (ha1 : at_ ≤ 1000000000) :
    Calls Try.prog 45 #[.pointer (some ⟨b, 0, none⟩), .int .u8 ((c : UInt8).toNat : Int)] w (Mo w B b (.tuple #[]) (rPlain ((67, p) :: r) f 67 c at_).1 (rPlain ((67, p) :: r) f 67 c at_).2 (at_ + 1)) := by
  obtain ⟨n, hn⟩ : ∃ n, r.length = n := ⟨_, rfl⟩
  obtain ⟨g, cap, t0, t1, t2, t3⟩ := h.top (n := n) (m := 3) hn rfl
  have HM := Lib.hid h
  have HL := Lib.hid hl
  have HN := Lib.hid hn
  clear h hl hn
  have z0 : (((n : Int) + 1) == 0) = false := by rw [beq_eq_false_iff_ne]; omega
  have Ht := Lib.hid ht
  clear ht
  go_enter Try.func45, Try.ntmps45
  go_step3
  go_wp2
  go_step3
  go_wp2
  refine wp_loop_rounds 2 ?_
  rw [rounds_succ]
  go_wp2_with fail
  go_quiet (fail)
  go_wp2_with (first
    | (go_at_call 72
       refine (become_k B b _ _ _ _ _ 67 1 _ rfl (HM.out.drewN _)).mono ?_
       rintro e w1 ⟨rfl, hm1, hb1⟩
       obtain ⟨x0, x1, x2, x3, x4⟩ := hm1.cells
       obtain ⟨g1, cap1, s0, s1, s2, s3⟩ := hm1.top (n := n) (m := 1) HN.out rfl
       have HM1 := Lib.hid (And.intro hm1 hb1)
       clear hm1 hb1))
  rw [rounds_succ]
  go_wp2_with fail
  go_quiet (fail)
  go_wp2_with (first
    | (go_at_call 74
       refine (plain_m B b r 67 p 1 c f at_ _ rfl (HM1.out.1.drewN _) (by have h1 := HN.out; have h2 := HL.out; omega) (fun _ => Ht.out) (by decide)).mono ?_
       rintro e w2 ⟨rfl, hm2, hb2⟩
       obtain ⟨x0, x1, x2, x3, x4⟩ := hm2.cells
       have HM2 := Lib.hid (And.intro hm2 hb2)
       clear hm2 hb2))
  rw [Exit.noGoto_normal]
  go_end0
  exact mo_at2 HM2.out.1 (BM.drewN (BM.refl _ _) _) HM1.out.2 ((BM.drewN (BM.refl _ _) _).trans HM2.out.2) rfl rfl
set_option maxHeartbeats 1000000 in
theorem fd_69_x (B b : Nat) (r : Stk) (p : Int) (c : UInt8) (hc41 : ((c.toNat : Int) == 41) = false)  (f : Bool) (at_ : Int) (w : World) (h : Mach w B b ((69, p) :: r) f at_) (hl : r.length ≤ 99970) (ht : r ≠ []) (ha0 : 0 ≤ at_) (ha1 : at_ ≤ 1000000000) :
    Calls Try.prog 45 #[.pointer (some ⟨b, 0, none⟩), .int .u8 ((c : UInt8).toNat : Int)] w (Mo w B b (.tuple #[]) (rPlain ((65, p) :: r) f 65 c at_).1 (rPlain ((65, p) :: r) f 65 c at_).2 (at_ + 1)) := by
  obtain ⟨n, hn⟩ : ∃ n, r.length = n := ⟨_, rfl⟩
  obtain ⟨g, cap, t0, t1, t2, t3⟩ := h.top (n := n) (m := 11) hn rfl
  have HM := Lib.hid h
  have HL := Lib.hid hl
  have HN := Lib.hid hn
  clear h hl hn
  have z0 : (((n : Int) + 1) == 0) = false := by rw [beq_eq_false_iff_ne]; omega
  have Ht := Lib.hid ht
  clear ht
  go_enter Try.func45, Try.ntmps45
  go_step3
  go_wp2
  go_step3
  go_wp2
  refine wp_loop_rounds 2 ?_
  rw [rounds_succ]
  go_wp2_with fail
  go_quiet (fail)
  go_wp2_with (first
    | (go_at_call 72
       refine (become_k B b _ _ _ _ _ 65 9 _ rfl (HM.out.drewN _)).mono ?_
       rintro e w1 ⟨rfl, hm1, hb1⟩
       obtain ⟨x0, x1, x2, x3, x4⟩ := hm1.cells
       obtain ⟨g1, cap1, s0, s1, s2, s3⟩ := hm1.top (n := n) (m := 9) HN.out rfl
       have HM1 := Lib.hid (And.intro hm1 hb1)
       clear hm1 hb1))
  rw [rounds_succ]
  go_wp2_with fail
  go_quiet (fail)
  go_wp2_with (first
    | (go_at_call 74
       refine (plain_m B b r 65 p 9 c f at_ _ rfl (HM1.out.1.drewN _) (by have h1 := HN.out; have h2 := HL.out; omega) (fun _ => Ht.out) (by decide)).mono ?_
       rintro e w2 ⟨rfl, hm2, hb2⟩
       obtain ⟨x0, x1, x2, x3, x4⟩ := hm2.cells
       have HM2 := Lib.hid (And.intro hm2 hb2)
       clear hm2 hb2))
  rw [Exit.noGoto_normal]
  go_end0
  exact mo_at2 HM2.out.1 (BM.drewN (BM.refl _ _) _) HM1.out.2 ((BM.drewN (BM.refl _ _) _).trans HM2.out.2) rfl rfl
end Go.Proofs.Ytjkiapgboljabaa
