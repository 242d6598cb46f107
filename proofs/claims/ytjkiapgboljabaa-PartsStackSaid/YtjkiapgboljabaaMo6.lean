/- The program's machine: a byte right behind a dollar (modes.dollar). -/
import Derived.Test.YtjkiapgboljabaaMo5
namespace Go.Proofs.Ytjkiapgboljabaa
open Go.RowKit
set_option linter.unusedVariables false
set_option linter.unusedSimpArgs false
set_option maxRecDepth 100000
theorem Mach.drewN {w : World} {B b : Nat} {st : Stk} {f : Bool} {at_ : Int} (h : Mach w B b st f at_) (n : Nat) : Mach (w.drewN n) B b st f at_ := h
theorem below_k (B b : Nat) (st : Stk) (f : Bool) (at_ p q : Int) (c d : UInt8) (m : Int) (w : World) (hm : m = modeOf d) (h : Mach w B b ((c, p) :: (d, q) :: st) f at_) :
    Calls Try.prog 95 #[.pointer (some ⟨b, 0, none⟩)] w fun e w' => e = .returned (.int .i64 m) ∧ ∃ n, w' = w.drewN n := by
  subst hm; exact below_m B b st f at_ p q c d w h
set_option maxHeartbeats 1000000 in
theorem do_40 (B b : Nat) (r : Stk) (p q : Int) (d : UInt8) (f : Bool) (at_ : Int) (w : World) (h : Mach w B b ((76, p) :: (d, q) :: r) f at_) (hl : r.length ≤ 99980)  :
    Calls Try.prog 71 #[.pointer (some ⟨b, 0, none⟩), .int .u8 ((40 : UInt8).toNat : Int)] w (Mo w B b (.bool true) ((79, p) :: (d, q) :: r) true at_) := by
  obtain ⟨x0, x1, x2, x3, x4⟩ := h.cells
  have HM := Lib.hid h
  clear h
  go_enter Try.func71, Try.ntmps71
  go_wp2_with (first
    | (go_at_call 72
       with_reducible refine (become_k B b _ _ _ _ _ 79 3 _ rfl HM.out).mono ?_
       rintro e w1 ⟨rfl, hm1, hb1⟩
       obtain ⟨x0, x1, x2, x3, x4⟩ := hm1.cells
       have q1 : BM B w w1 := hb1
       have HM1 := Lib.hid hm1
       clear hm1))
  all_goals go_returns
  all_goals first
    | exact mo_mk HM1.out q1 rfl rfl
    | exact mo_mk (HM1.out.setFresh _) (BM.setCell q1 HM1.out _) rfl rfl

set_option maxHeartbeats 1000000 in
theorem do_36 (B b : Nat) (r : Stk) (p q : Int) (d : UInt8) (f : Bool) (at_ : Int) (w : World) (h : Mach w B b ((76, p) :: (d, q) :: r) f at_) (hl : r.length ≤ 99980)  :
    Calls Try.prog 71 #[.pointer (some ⟨b, 0, none⟩), .int .u8 ((36 : UInt8).toNat : Int)] w (Mo w B b (.bool true) ((d, q) :: r) f at_) := by
  obtain ⟨x0, x1, x2, x3, x4⟩ := h.cells
  have HM := Lib.hid h
  clear h
  go_enter Try.func71, Try.ntmps71
  go_wp2_with (first
    | (go_at_call 73; refine (shut_m B b _ _ _ _ _ _ HM.out (by simp)).mono ?_
       rintro e w1 ⟨rfl, hm1, hb1⟩
       obtain ⟨x0, x1, x2, x3, x4⟩ := hm1.cells
       have q1 : BM B w w1 := hb1
       have HM1 := Lib.hid hm1
       clear hm1))
  all_goals go_returns
  all_goals first
    | exact mo_mk HM1.out q1 rfl rfl
    | exact mo_mk (HM1.out.setFresh _) (BM.setCell q1 HM1.out _) rfl rfl

set_option maxHeartbeats 1000000 in
theorem do_x (B b : Nat) (r : Stk) (p q : Int) (d : UInt8) (c : UInt8) (f : Bool) (at_ : Int) (w : World) (h : Mach w B b ((76, p) :: (d, q) :: r) f at_) (hl : r.length ≤ 99980) (hc40 : ((c.toNat : Int) == 40) = false) (hc123 : ((c.toNat : Int) == 123) = false) (hc36 : ((c.toNat : Int) == 36) = false)  :
    Calls Try.prog 71 #[.pointer (some ⟨b, 0, none⟩), .int .u8 ((c : UInt8).toNat : Int)] w (Mo w B b (.bool false) ((d, q) :: r) f at_) := by
  obtain ⟨x0, x1, x2, x3, x4⟩ := h.cells
  have HM := Lib.hid h
  clear h
  go_enter Try.func71, Try.ntmps71
  go_wp2_with (first
    | (go_at_call 73; refine (shut_m B b _ _ _ _ _ _ HM.out (by simp)).mono ?_
       rintro e w1 ⟨rfl, hm1, hb1⟩
       obtain ⟨x0, x1, x2, x3, x4⟩ := hm1.cells
       have q1 : BM B w w1 := hb1
       have HM1 := Lib.hid hm1
       clear hm1))
  all_goals go_returns
  all_goals first
    | exact mo_mk HM1.out q1 rfl rfl
    | exact mo_mk (HM1.out.setFresh _) (BM.setCell q1 HM1.out _) rfl rfl

set_option maxHeartbeats 1000000 in
theorem do_123_5 (B b : Nat) (r : Stk) (p q : Int) (d : UInt8) (m : Int) (f : Bool) (at_ : Int) (w : World) (h : Mach w B b ((76, p) :: (d, q) :: r) f at_) (hl : r.length ≤ 99980) (hmd : m = modeOf d) (hm5 : m = 5) :
    Calls Try.prog 71 #[.pointer (some ⟨b, 0, none⟩), .int .u8 ((123 : UInt8).toNat : Int)] w (Mo w B b (.bool true) ((73, p) :: (d, q) :: r) f at_) := by
  obtain ⟨x0, x1, x2, x3, x4⟩ := h.cells
  have HM := Lib.hid h
  clear h
  subst hm5
  have Hmd := Lib.hid hmd
  clear hmd
  go_enter Try.func71, Try.ntmps71
  go_wp2_with (first
    | (go_at_call 95; refine (below_k B b _ _ _ _ _ _ _ _ _ Hmd.out HM.out).mono ?_
       rintro e w0 ⟨rfl, nq, rfl⟩)
    | (go_at_call 72
       with_reducible refine (become_k B b _ _ _ _ _ 73 8 _ rfl (HM.out.drewN nq)).mono ?_
       rintro e w1 ⟨rfl, hm1, hb1⟩
       obtain ⟨x0, x1, x2, x3, x4⟩ := hm1.cells
       have q1 : BM B w w1 := (BM.drewN (BM.refl B w) nq).trans hb1
       have HM1 := Lib.hid hm1
       clear hm1))
  all_goals go_returns
  all_goals first
    | exact mo_mk HM1.out q1 rfl rfl
    | exact mo_mk (HM1.out.setFresh _) (BM.setCell q1 HM1.out _) rfl rfl

set_option maxHeartbeats 1000000 in
theorem do_123_8 (B b : Nat) (r : Stk) (p q : Int) (d : UInt8) (m : Int) (f : Bool) (at_ : Int) (w : World) (h : Mach w B b ((76, p) :: (d, q) :: r) f at_) (hl : r.length ≤ 99980) (hmd : m = modeOf d) (hm5 : m = 8) :
    Calls Try.prog 71 #[.pointer (some ⟨b, 0, none⟩), .int .u8 ((123 : UInt8).toNat : Int)] w (Mo w B b (.bool true) ((73, p) :: (d, q) :: r) f at_) := by
  obtain ⟨x0, x1, x2, x3, x4⟩ := h.cells
  have HM := Lib.hid h
  clear h
  subst hm5
  have Hmd := Lib.hid hmd
  clear hmd
  go_enter Try.func71, Try.ntmps71
  go_wp2_with (first
    | (go_at_call 95; refine (below_k B b _ _ _ _ _ _ _ _ _ Hmd.out HM.out).mono ?_
       rintro e w0 ⟨rfl, nq, rfl⟩)
    | (go_at_call 72
       with_reducible refine (become_k B b _ _ _ _ _ 73 8 _ rfl (HM.out.drewN nq)).mono ?_
       rintro e w1 ⟨rfl, hm1, hb1⟩
       obtain ⟨x0, x1, x2, x3, x4⟩ := hm1.cells
       have q1 : BM B w w1 := (BM.drewN (BM.refl B w) nq).trans hb1
       have HM1 := Lib.hid hm1
       clear hm1))
  all_goals go_returns
  all_goals first
    | exact mo_mk HM1.out q1 rfl rfl
    | exact mo_mk (HM1.out.setFresh _) (BM.setCell q1 HM1.out _) rfl rfl

set_option maxHeartbeats 1000000 in
theorem do_123_x (B b : Nat) (r : Stk) (p q : Int) (d : UInt8) (m : Int) (f : Bool) (at_ : Int) (w : World) (h : Mach w B b ((76, p) :: (d, q) :: r) f at_) (hl : r.length ≤ 99980) (hmd : m = modeOf d) (hm5 : (m == 5) = false) (hm8 : (m == 8) = false) :
    Calls Try.prog 71 #[.pointer (some ⟨b, 0, none⟩), .int .u8 ((123 : UInt8).toNat : Int)] w (Mo w B b (.bool true) ((86, p) :: (d, q) :: r) f at_) := by
  obtain ⟨x0, x1, x2, x3, x4⟩ := h.cells
  have HM := Lib.hid h
  clear h
  have Hmd := Lib.hid hmd
  clear hmd
  go_enter Try.func71, Try.ntmps71
  go_wp2_with (first
    | (go_at_call 95; refine (below_k B b _ _ _ _ _ _ _ _ _ Hmd.out HM.out).mono ?_
       rintro e w0 ⟨rfl, nq, rfl⟩)
    | (go_at_call 72
       with_reducible refine (become_k B b _ _ _ _ _ 86 7 _ rfl (HM.out.drewN nq)).mono ?_
       rintro e w1 ⟨rfl, hm1, hb1⟩
       obtain ⟨x0, x1, x2, x3, x4⟩ := hm1.cells
       have q1 : BM B w w1 := (BM.drewN (BM.refl B w) nq).trans hb1
       have HM1 := Lib.hid hm1
       clear hm1))
  all_goals go_returns
  all_goals first
    | exact mo_mk HM1.out q1 rfl rfl
    | exact mo_mk (HM1.out.setFresh _) (BM.setCell q1 HM1.out _) rfl rfl

end Go.Proofs.Ytjkiapgboljabaa
