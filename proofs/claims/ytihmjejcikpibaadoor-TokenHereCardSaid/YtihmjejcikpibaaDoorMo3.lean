/- The program's machine: a byte comes to Top, Command or Paren (modes.program). -/
import Derived.Test.YtihmjejcikpibaaDoorMo1
namespace Go.Proofs.YtihmjejcikpibaaDoor
open Go.RowKit
set_option linter.unusedVariables false
set_option linter.unusedSimpArgs false
set_option maxRecDepth 100000
set_option maxHeartbeats 1000000 in
theorem pr_92 (B b : Nat) (r : Stk) (p : Int) (m : Int) (x : UInt8) (f : Bool) (at_ : Int) (w : World) (h : Mach w B b ((x, p) :: r) f at_) (hl : r.length ≤ 99990) :
    Calls Tryd.prog 85 #[.pointer (some ⟨b, 0, none⟩), .int .i64 m, .int .u8 ((92 : UInt8).toNat : Int)] w (Mo w B b (.tuple #[]) ((88, at_) :: (x, p) :: r) f at_) := by
  obtain ⟨x0, x1, x2, x3, x4⟩ := h.cells
  have HM := Lib.hid h
  clear h
  go_enter Tryd.func85, Tryd.ntmps85
  go_wp2_with (first
    | (go_at_call 86
       with_reducible refine (open_k B b _ _ _ 88 13 _ rfl HM.out (by simp) (by simp at *; omega)).mono ?_
       rintro e w1 ⟨rfl, hm1, hb1⟩
       obtain ⟨x0, x1, x2, x3, x4⟩ := hm1.cells
       have q1 : BM B w w1 := hb1
       have HM1 := Lib.hid hm1
       clear hm1))
  all_goals go_returns
  all_goals first
    | exact mo_mk HM1.out q1 rfl rfl
    | exact mo_mk (HM1.out.setFresh _) (BM.setCell q1 HM1.out _) rfl (by first | rfl | decide | simp)

set_option maxHeartbeats 1000000 in
theorem pr_39 (B b : Nat) (r : Stk) (p : Int) (m : Int) (x : UInt8) (f : Bool) (at_ : Int) (w : World) (h : Mach w B b ((x, p) :: r) f at_) (hl : r.length ≤ 99990) :
    Calls Tryd.prog 85 #[.pointer (some ⟨b, 0, none⟩), .int .i64 m, .int .u8 ((39 : UInt8).toNat : Int)] w (Mo w B b (.tuple #[]) ((83, at_) :: (x, p) :: r) false at_) := by
  obtain ⟨x0, x1, x2, x3, x4⟩ := h.cells
  have HM := Lib.hid h
  clear h
  go_enter Tryd.func85, Tryd.ntmps85
  go_wp2_with (first
    | (go_at_call 86
       with_reducible refine (open_k B b _ _ _ 83 4 _ rfl HM.out (by simp) (by simp at *; omega)).mono ?_
       rintro e w1 ⟨rfl, hm1, hb1⟩
       obtain ⟨x0, x1, x2, x3, x4⟩ := hm1.cells
       have q1 : BM B w w1 := hb1
       have HM1 := Lib.hid hm1
       clear hm1)
    | (go_at_call 63; refine (ends_c 39 _).mono ?_; rintro e w' ⟨rfl, rfl⟩))
  all_goals go_returns
  all_goals first
    | exact mo_mk HM1.out q1 rfl rfl
    | exact mo_mk (HM1.out.setFresh _) (BM.setCell q1 HM1.out _) rfl (by first | rfl | decide | simp)

set_option maxHeartbeats 1000000 in
theorem pr_34 (B b : Nat) (r : Stk) (p : Int) (m : Int) (x : UInt8) (f : Bool) (at_ : Int) (w : World) (h : Mach w B b ((x, p) :: r) f at_) (hl : r.length ≤ 99990) :
    Calls Tryd.prog 85 #[.pointer (some ⟨b, 0, none⟩), .int .i64 m, .int .u8 ((34 : UInt8).toNat : Int)] w (Mo w B b (.tuple #[]) ((68, at_) :: (x, p) :: r) false at_) := by
  obtain ⟨x0, x1, x2, x3, x4⟩ := h.cells
  have HM := Lib.hid h
  clear h
  go_enter Tryd.func85, Tryd.ntmps85
  go_wp2_with (first
    | (go_at_call 86
       with_reducible refine (open_k B b _ _ _ 68 5 _ rfl HM.out (by simp) (by simp at *; omega)).mono ?_
       rintro e w1 ⟨rfl, hm1, hb1⟩
       obtain ⟨x0, x1, x2, x3, x4⟩ := hm1.cells
       have q1 : BM B w w1 := hb1
       have HM1 := Lib.hid hm1
       clear hm1)
    | (go_at_call 63; refine (ends_c 34 _).mono ?_; rintro e w' ⟨rfl, rfl⟩))
  all_goals go_returns
  all_goals first
    | exact mo_mk HM1.out q1 rfl rfl
    | exact mo_mk (HM1.out.setFresh _) (BM.setCell q1 HM1.out _) rfl (by first | rfl | decide | simp)

set_option maxHeartbeats 1000000 in
theorem pr_36 (B b : Nat) (r : Stk) (p : Int) (m : Int) (x : UInt8) (f : Bool) (at_ : Int) (w : World) (h : Mach w B b ((x, p) :: r) f at_) (hl : r.length ≤ 99990) :
    Calls Tryd.prog 85 #[.pointer (some ⟨b, 0, none⟩), .int .i64 m, .int .u8 ((36 : UInt8).toNat : Int)] w (Mo w B b (.tuple #[]) ((76, at_) :: (x, p) :: r) false at_) := by
  obtain ⟨x0, x1, x2, x3, x4⟩ := h.cells
  have HM := Lib.hid h
  clear h
  go_enter Tryd.func85, Tryd.ntmps85
  go_wp2_with (first
    | (go_at_call 97
       refine (inner_yes B b _ _ _ 36 76 _ HM.out (by simp) (by simp; omega) (by decide)).mono ?_
       rintro e w1 ⟨rfl, hm1, hb1⟩
       obtain ⟨x0, x1, x2, x3, x4⟩ := hm1.cells
       have q1 : BM B w w1 := hb1
       have HM1 := Lib.hid hm1
       clear hm1)
    | (go_at_call 63; refine (ends_c 36 _).mono ?_; rintro e w' ⟨rfl, rfl⟩))
  all_goals go_returns
  all_goals first
    | exact mo_mk HM1.out q1 rfl rfl
    | exact mo_mk (HM1.out.setFresh _) (BM.setCell q1 HM1.out _) rfl (by first | rfl | decide | simp)

set_option maxHeartbeats 1000000 in
theorem pr_96 (B b : Nat) (r : Stk) (p : Int) (m : Int) (x : UInt8) (f : Bool) (at_ : Int) (w : World) (h : Mach w B b ((x, p) :: r) f at_) (hl : r.length ≤ 99990) :
    Calls Tryd.prog 85 #[.pointer (some ⟨b, 0, none⟩), .int .i64 m, .int .u8 ((96 : UInt8).toNat : Int)] w (Mo w B b (.tuple #[]) ((66, at_) :: (x, p) :: r) false at_) := by
  obtain ⟨x0, x1, x2, x3, x4⟩ := h.cells
  have HM := Lib.hid h
  clear h
  go_enter Tryd.func85, Tryd.ntmps85
  go_wp2_with (first
    | (go_at_call 97
       refine (inner_yes B b _ _ _ 96 66 _ HM.out (by simp) (by simp; omega) (by decide)).mono ?_
       rintro e w1 ⟨rfl, hm1, hb1⟩
       obtain ⟨x0, x1, x2, x3, x4⟩ := hm1.cells
       have q1 : BM B w w1 := hb1
       have HM1 := Lib.hid hm1
       clear hm1)
    | (go_at_call 63; refine (ends_c 96 _).mono ?_; rintro e w' ⟨rfl, rfl⟩))
  all_goals go_returns
  all_goals first
    | exact mo_mk HM1.out q1 rfl rfl
    | exact mo_mk (HM1.out.setFresh _) (BM.setCell q1 HM1.out _) rfl (by first | rfl | decide | simp)

set_option maxHeartbeats 1000000 in
theorem pr_35t (B b : Nat) (r : Stk) (p : Int) (m : Int) (x : UInt8) (f : Bool) (at_ : Int) (w : World) (h : Mach w B b ((x, p) :: r) true at_) (hl : r.length ≤ 99990) :
    Calls Tryd.prog 85 #[.pointer (some ⟨b, 0, none⟩), .int .i64 m, .int .u8 ((35 : UInt8).toNat : Int)] w (Mo w B b (.tuple #[]) ((35, at_) :: (x, p) :: r) true at_) := by
  obtain ⟨x0, x1, x2, x3, x4⟩ := h.cells
  have HM := Lib.hid h
  clear h
  go_enter Tryd.func85, Tryd.ntmps85
  go_wp2_with (first
    | (go_at_call 86
       with_reducible refine (open_k B b _ _ _ 35 14 _ rfl HM.out (by simp) (by simp at *; omega)).mono ?_
       rintro e w1 ⟨rfl, hm1, hb1⟩
       obtain ⟨x0, x1, x2, x3, x4⟩ := hm1.cells
       have q1 : BM B w w1 := hb1
       have HM1 := Lib.hid hm1
       clear hm1))
  all_goals go_returns
  all_goals first
    | exact mo_mk HM1.out q1 rfl rfl
    | exact mo_mk (HM1.out.setFresh _) (BM.setCell q1 HM1.out _) rfl (by first | rfl | decide | simp)

set_option maxHeartbeats 1000000 in
theorem pr_35f (B b : Nat) (r : Stk) (p : Int) (m : Int) (x : UInt8) (f : Bool) (at_ : Int) (w : World) (h : Mach w B b ((x, p) :: r) false at_) (hl : r.length ≤ 99990) :
    Calls Tryd.prog 85 #[.pointer (some ⟨b, 0, none⟩), .int .i64 m, .int .u8 ((35 : UInt8).toNat : Int)] w (Mo w B b (.tuple #[]) ((x, p) :: r) false at_) := by
  obtain ⟨x0, x1, x2, x3, x4⟩ := h.cells
  have HM := Lib.hid h
  clear h
  go_enter Tryd.func85, Tryd.ntmps85
  go_wp2_with (first
    | (go_at_call 63; refine (ends_c 35 _).mono ?_; rintro e w' ⟨rfl, rfl⟩))
  all_goals go_returns
  all_goals first
    | exact mo_mk HM.out (BM.refl _ _) rfl rfl
    | exact mo_mk (HM.out.setFresh _) (BM.setCell (BM.refl _ _) HM.out _) rfl (by first | rfl | decide | simp)

set_option maxHeartbeats 1000000 in
theorem pr_40t (B b : Nat) (r : Stk) (p : Int) (x : UInt8) (f : Bool) (at_ : Int) (w : World) (h : Mach w B b ((x, p) :: r) f at_) (hl : r.length ≤ 99990) :
    Calls Tryd.prog 85 #[.pointer (some ⟨b, 0, none⟩), .int .i64 0, .int .u8 ((40 : UInt8).toNat : Int)] w (Mo w B b (.tuple #[]) ((x, p) :: r) true at_) := by
  obtain ⟨x0, x1, x2, x3, x4⟩ := h.cells
  have HM := Lib.hid h
  clear h
  go_enter Tryd.func85, Tryd.ntmps85
  go_wp2_with (first
    | (go_at_call 63; refine (ends_c 40 _).mono ?_; rintro e w' ⟨rfl, rfl⟩))
  all_goals go_returns
  all_goals first
    | exact mo_mk HM.out (BM.refl _ _) rfl rfl
    | exact mo_mk (HM.out.setFresh _) (BM.setCell (BM.refl _ _) HM.out _) rfl (by first | rfl | decide | simp)

set_option maxHeartbeats 1000000 in
theorem pr_40_1 (B b : Nat) (r : Stk) (p : Int) (x : UInt8) (f : Bool) (at_ : Int) (w : World) (h : Mach w B b ((x, p) :: r) f at_) (hl : r.length ≤ 99990) :
    Calls Tryd.prog 85 #[.pointer (some ⟨b, 0, none⟩), .int .i64 1, .int .u8 ((40 : UInt8).toNat : Int)] w (Mo w B b (.tuple #[]) ((80, at_) :: (x, p) :: r) true at_) := by
  obtain ⟨x0, x1, x2, x3, x4⟩ := h.cells
  have HM := Lib.hid h
  clear h
  go_enter Tryd.func85, Tryd.ntmps85
  go_wp2_with (first
    | (go_at_call 86
       with_reducible refine (open_k B b _ _ _ 80 2 _ rfl HM.out (by simp) (by simp at *; omega)).mono ?_
       rintro e w1 ⟨rfl, hm1, hb1⟩
       obtain ⟨x0, x1, x2, x3, x4⟩ := hm1.cells
       have q1 : BM B w w1 := hb1
       have HM1 := Lib.hid hm1
       clear hm1)
    | (go_at_call 63; refine (ends_c 40 _).mono ?_; rintro e w' ⟨rfl, rfl⟩))
  all_goals go_returns
  all_goals first
    | exact mo_mk HM1.out q1 rfl rfl
    | exact mo_mk (HM1.out.setFresh _) (BM.setCell q1 HM1.out _) rfl (by first | rfl | decide | simp)

set_option maxHeartbeats 1000000 in
theorem pr_40_2 (B b : Nat) (r : Stk) (p : Int) (x : UInt8) (f : Bool) (at_ : Int) (w : World) (h : Mach w B b ((x, p) :: r) f at_) (hl : r.length ≤ 99990) :
    Calls Tryd.prog 85 #[.pointer (some ⟨b, 0, none⟩), .int .i64 2, .int .u8 ((40 : UInt8).toNat : Int)] w (Mo w B b (.tuple #[]) ((80, at_) :: (x, p) :: r) true at_) := by
  obtain ⟨x0, x1, x2, x3, x4⟩ := h.cells
  have HM := Lib.hid h
  clear h
  go_enter Tryd.func85, Tryd.ntmps85
  go_wp2_with (first
    | (go_at_call 86
       with_reducible refine (open_k B b _ _ _ 80 2 _ rfl HM.out (by simp) (by simp at *; omega)).mono ?_
       rintro e w1 ⟨rfl, hm1, hb1⟩
       obtain ⟨x0, x1, x2, x3, x4⟩ := hm1.cells
       have q1 : BM B w w1 := hb1
       have HM1 := Lib.hid hm1
       clear hm1)
    | (go_at_call 63; refine (ends_c 40 _).mono ?_; rintro e w' ⟨rfl, rfl⟩))
  all_goals go_returns
  all_goals first
    | exact mo_mk HM1.out q1 rfl rfl
    | exact mo_mk (HM1.out.setFresh _) (BM.setCell q1 HM1.out _) rfl (by first | rfl | decide | simp)

set_option maxHeartbeats 1000000 in
theorem pr_41t (B b : Nat) (r : Stk) (p : Int) (x : UInt8) (f : Bool) (at_ : Int) (w : World) (h : Mach w B b ((x, p) :: r) f at_) (hl : r.length ≤ 99990) :
    Calls Tryd.prog 85 #[.pointer (some ⟨b, 0, none⟩), .int .i64 0, .int .u8 ((41 : UInt8).toNat : Int)] w (Mo w B b (.tuple #[]) ((x, p) :: r) true at_) := by
  obtain ⟨x0, x1, x2, x3, x4⟩ := h.cells
  have HM := Lib.hid h
  clear h
  go_enter Tryd.func85, Tryd.ntmps85
  go_wp2_with fail
  all_goals go_returns
  all_goals first
    | exact mo_mk HM.out (BM.refl _ _) rfl rfl
    | exact mo_mk (HM.out.setFresh _) (BM.setCell (BM.refl _ _) HM.out _) rfl (by first | rfl | decide | simp)

set_option maxHeartbeats 1000000 in
theorem pr_41_1 (B b : Nat) (r : Stk) (p : Int) (x : UInt8) (f : Bool) (at_ : Int) (w : World) (h : Mach w B b ((x, p) :: r) f at_) (hl : r.length ≤ 99990) (ht : r ≠ []) :
    Calls Tryd.prog 85 #[.pointer (some ⟨b, 0, none⟩), .int .i64 1, .int .u8 ((41 : UInt8).toNat : Int)] w (Mo w B b (.tuple #[]) r false at_) := by
  obtain ⟨x0, x1, x2, x3, x4⟩ := h.cells
  have HM := Lib.hid h
  clear h
  go_enter Tryd.func85, Tryd.ntmps85
  go_wp2_with (first
    | (go_at_call 66
       with_reducible refine (shut_m B b _ _ _ _ _ _ HM.out ht).mono ?_
       rintro e w1 ⟨rfl, hm1, hb1⟩
       obtain ⟨x0, x1, x2, x3, x4⟩ := hm1.cells
       have q1 : BM B w w1 := hb1
       have HM1 := Lib.hid hm1
       clear hm1))
  all_goals go_returns
  all_goals first
    | exact mo_mk HM1.out q1 rfl rfl
    | exact mo_mk (HM1.out.setFresh _) (BM.setCell q1 HM1.out _) rfl (by first | rfl | decide | simp)

set_option maxHeartbeats 1000000 in
theorem pr_41_2 (B b : Nat) (r : Stk) (p : Int) (x : UInt8) (f : Bool) (at_ : Int) (w : World) (h : Mach w B b ((x, p) :: r) f at_) (hl : r.length ≤ 99990) (ht : r ≠ []) :
    Calls Tryd.prog 85 #[.pointer (some ⟨b, 0, none⟩), .int .i64 2, .int .u8 ((41 : UInt8).toNat : Int)] w (Mo w B b (.tuple #[]) r true at_) := by
  obtain ⟨x0, x1, x2, x3, x4⟩ := h.cells
  have HM := Lib.hid h
  clear h
  go_enter Tryd.func85, Tryd.ntmps85
  go_wp2_with (first
    | (go_at_call 66
       with_reducible refine (shut_m B b _ _ _ _ _ _ HM.out ht).mono ?_
       rintro e w1 ⟨rfl, hm1, hb1⟩
       obtain ⟨x0, x1, x2, x3, x4⟩ := hm1.cells
       have q1 : BM B w w1 := hb1
       have HM1 := Lib.hid hm1
       clear hm1))
  all_goals go_returns
  all_goals first
    | exact mo_mk HM1.out q1 rfl rfl
    | exact mo_mk (HM1.out.setFresh _) (BM.setCell q1 HM1.out _) rfl (by first | rfl | decide | simp)

set_option maxHeartbeats 1000000 in
theorem pr_no (B b : Nat) (r : Stk) (p : Int) (m : Int) (x c : UInt8) (f : Bool) (at_ : Int) (w : World) (h : Mach w B b ((x, p) :: r) f at_) (hl : r.length ≤ 99990) (hc92 : ((c.toNat : Int) == 92) = false) (hc39 : ((c.toNat : Int) == 39) = false) (hc34 : ((c.toNat : Int) == 34) = false) (hc96 : ((c.toNat : Int) == 96) = false) (hc36 : ((c.toNat : Int) == 36) = false) (hc35 : ((c.toNat : Int) == 35) = false) (hc40 : ((c.toNat : Int) == 40) = false) (hc41 : ((c.toNat : Int) == 41) = false)  :
    Calls Tryd.prog 85 #[.pointer (some ⟨b, 0, none⟩), .int .i64 m, .int .u8 ((c : UInt8).toNat : Int)] w (Mo w B b (.tuple #[]) ((x, p) :: r) (endsB c) at_) := by
  obtain ⟨x0, x1, x2, x3, x4⟩ := h.cells
  have HM := Lib.hid h
  clear h
  go_enter Tryd.func85, Tryd.ntmps85
  go_wp2_with (first
    | (go_at_call 63; refine (ends_c c _).mono ?_; rintro e w' ⟨rfl, rfl⟩))
  all_goals go_returns
  all_goals first
    | exact mo_mk HM.out (BM.refl _ _) rfl rfl
    | exact mo_mk (HM.out.setFresh _) (BM.setCell (BM.refl _ _) HM.out _) rfl (by first | rfl | decide | simp)

end Go.Proofs.YtihmjejcikpibaaDoor
