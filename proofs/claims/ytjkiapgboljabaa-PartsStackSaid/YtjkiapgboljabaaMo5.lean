/- The program's machine: a byte comes to one of the plain modes (modes.plain): the stack is what rPlain says. -/
import Derived.Test.YtjkiapgboljabaaMo4
namespace Go.Proofs.Ytjkiapgboljabaa
open Go.RowKit
set_option linter.unusedVariables false
set_option linter.unusedSimpArgs false
set_option maxRecDepth 100000
set_option maxHeartbeats 1000000 in
theorem pn_84 (B b : Nat) (r : Stk) (p : Int) (c : UInt8) (f : Bool) (at_ : Int) (w : World) (h : Mach w B b ((84, p) :: r) f at_) (hl : r.length ≤ 99990)  :
    Calls Try.prog 74 #[.pointer (some ⟨b, 0, none⟩), .int .i64 0, .int .u8 ((c : UInt8).toNat : Int)] w (Mo w B b (.tuple #[]) (rPlain ((84, p) :: r) f 84 c at_).1 (rPlain ((84, p) :: r) f 84 c at_).2 at_) := by
  obtain ⟨x0, x1, x2, x3, x4⟩ := h.cells
  have HM := Lib.hid h
  clear h
  go_enter Try.func74, Try.ntmps74
  go_wp2_with (first
    | (go_at_call 96
       refine (program_84 B b r p _ _ _ _ HM.out hl).mono ?_
       rintro e w1 ⟨rfl, hm1, hb1⟩
       obtain ⟨x0, x1, x2, x3, x4⟩ := hm1.cells
       have q1 : BM B w w1 := hb1
       have HM1 := Lib.hid hm1
       clear hm1))
  all_goals go_returns
  all_goals first
    | exact mo_mk HM1.out q1 rfl rfl
    | exact mo_mk (HM1.out.setFresh _) (BM.setCell q1 HM1.out _) rfl rfl

set_option maxHeartbeats 1000000 in
theorem pn_67 (B b : Nat) (r : Stk) (p : Int) (c : UInt8) (f : Bool) (at_ : Int) (w : World) (h : Mach w B b ((67, p) :: r) f at_) (hl : r.length ≤ 99990) (ht : r ≠ []) :
    Calls Try.prog 74 #[.pointer (some ⟨b, 0, none⟩), .int .i64 1, .int .u8 ((c : UInt8).toNat : Int)] w (Mo w B b (.tuple #[]) (rPlain ((67, p) :: r) f 67 c at_).1 (rPlain ((67, p) :: r) f 67 c at_).2 at_) := by
  obtain ⟨x0, x1, x2, x3, x4⟩ := h.cells
  have HM := Lib.hid h
  clear h
  go_enter Try.func74, Try.ntmps74
  go_wp2_with (first
    | (go_at_call 96
       refine (program_67 B b r p _ _ _ _ HM.out hl ht).mono ?_
       rintro e w1 ⟨rfl, hm1, hb1⟩
       obtain ⟨x0, x1, x2, x3, x4⟩ := hm1.cells
       have q1 : BM B w w1 := hb1
       have HM1 := Lib.hid hm1
       clear hm1))
  all_goals go_returns
  all_goals first
    | exact mo_mk HM1.out q1 rfl rfl
    | exact mo_mk (HM1.out.setFresh _) (BM.setCell q1 HM1.out _) rfl rfl

set_option maxHeartbeats 1000000 in
theorem pn_80 (B b : Nat) (r : Stk) (p : Int) (c : UInt8) (f : Bool) (at_ : Int) (w : World) (h : Mach w B b ((80, p) :: r) f at_) (hl : r.length ≤ 99990) (ht : r ≠ []) :
    Calls Try.prog 74 #[.pointer (some ⟨b, 0, none⟩), .int .i64 2, .int .u8 ((c : UInt8).toNat : Int)] w (Mo w B b (.tuple #[]) (rPlain ((80, p) :: r) f 80 c at_).1 (rPlain ((80, p) :: r) f 80 c at_).2 at_) := by
  obtain ⟨x0, x1, x2, x3, x4⟩ := h.cells
  have HM := Lib.hid h
  clear h
  go_enter Try.func74, Try.ntmps74
  go_wp2_with (first
    | (go_at_call 96
       refine (program_80 B b r p _ _ _ _ HM.out hl ht).mono ?_
       rintro e w1 ⟨rfl, hm1, hb1⟩
       obtain ⟨x0, x1, x2, x3, x4⟩ := hm1.cells
       have q1 : BM B w w1 := hb1
       have HM1 := Lib.hid hm1
       clear hm1))
  all_goals go_returns
  all_goals first
    | exact mo_mk HM1.out q1 rfl rfl
    | exact mo_mk (HM1.out.setFresh _) (BM.setCell q1 HM1.out _) rfl rfl

set_option maxHeartbeats 1000000 in
theorem pn_65 (B b : Nat) (r : Stk) (p : Int) (c : UInt8) (f : Bool) (at_ : Int) (w : World) (h : Mach w B b ((65, p) :: r) f at_) (hl : r.length ≤ 99990) (ht : r ≠ []) :
    Calls Try.prog 74 #[.pointer (some ⟨b, 0, none⟩), .int .i64 9, .int .u8 ((c : UInt8).toNat : Int)] w (Mo w B b (.tuple #[]) (rPlain ((65, p) :: r) f 65 c at_).1 (rPlain ((65, p) :: r) f 65 c at_).2 at_) := by
  obtain ⟨x0, x1, x2, x3, x4⟩ := h.cells
  have HM := Lib.hid h
  clear h
  go_enter Try.func74, Try.ntmps74
  go_wp2_with (first
    | (go_at_call 98
       refine (arith_65 B b r p _ _ _ _ HM.out hl ht).mono ?_
       rintro e w1 ⟨rfl, hm1, hb1⟩
       obtain ⟨x0, x1, x2, x3, x4⟩ := hm1.cells
       have q1 : BM B w w1 := hb1
       have HM1 := Lib.hid hm1
       clear hm1))
  all_goals go_returns
  all_goals first
    | exact mo_mk HM1.out q1 rfl rfl
    | exact mo_mk (HM1.out.setFresh _) (BM.setCell q1 HM1.out _) rfl rfl

set_option maxHeartbeats 1000000 in
theorem pn_82 (B b : Nat) (r : Stk) (p : Int) (c : UInt8) (f : Bool) (at_ : Int) (w : World) (h : Mach w B b ((82, p) :: r) f at_) (hl : r.length ≤ 99990) (ht : r ≠ []) :
    Calls Try.prog 74 #[.pointer (some ⟨b, 0, none⟩), .int .i64 10, .int .u8 ((c : UInt8).toNat : Int)] w (Mo w B b (.tuple #[]) (rPlain ((82, p) :: r) f 82 c at_).1 (rPlain ((82, p) :: r) f 82 c at_).2 at_) := by
  obtain ⟨x0, x1, x2, x3, x4⟩ := h.cells
  have HM := Lib.hid h
  clear h
  go_enter Try.func74, Try.ntmps74
  go_wp2_with (first
    | (go_at_call 98
       refine (arith_82 B b r p _ _ _ _ HM.out hl ht).mono ?_
       rintro e w1 ⟨rfl, hm1, hb1⟩
       obtain ⟨x0, x1, x2, x3, x4⟩ := hm1.cells
       have q1 : BM B w w1 := hb1
       have HM1 := Lib.hid hm1
       clear hm1))
  all_goals go_returns
  all_goals first
    | exact mo_mk HM1.out q1 rfl rfl
    | exact mo_mk (HM1.out.setFresh _) (BM.setCell q1 HM1.out _) rfl rfl

set_option maxHeartbeats 1000000 in
theorem pn_68 (B b : Nat) (r : Stk) (p : Int) (c : UInt8) (f : Bool) (at_ : Int) (w : World) (h : Mach w B b ((68, p) :: r) f at_) (hl : r.length ≤ 99990) (ht : r ≠ []) :
    Calls Try.prog 74 #[.pointer (some ⟨b, 0, none⟩), .int .i64 5, .int .u8 ((c : UInt8).toNat : Int)] w (Mo w B b (.tuple #[]) (rPlain ((68, p) :: r) f 68 c at_).1 (rPlain ((68, p) :: r) f 68 c at_).2 at_) := by
  obtain ⟨x0, x1, x2, x3, x4⟩ := h.cells
  have HM := Lib.hid h
  clear h
  go_enter Try.func74, Try.ntmps74
  go_wp2_with (first
    | (go_at_call 99
       refine (quoted_68 B b r p _ _ _ _ HM.out hl ht).mono ?_
       rintro e w1 ⟨rfl, hm1, hb1⟩
       obtain ⟨x0, x1, x2, x3, x4⟩ := hm1.cells
       have q1 : BM B w w1 := hb1
       have HM1 := Lib.hid hm1
       clear hm1))
  all_goals go_returns
  all_goals first
    | exact mo_mk HM1.out q1 rfl rfl
    | exact mo_mk (HM1.out.setFresh _) (BM.setCell q1 HM1.out _) rfl rfl

set_option maxHeartbeats 1000000 in
theorem pn_73 (B b : Nat) (r : Stk) (p : Int) (c : UInt8) (f : Bool) (at_ : Int) (w : World) (h : Mach w B b ((73, p) :: r) f at_) (hl : r.length ≤ 99990) (ht : r ≠ []) :
    Calls Try.prog 74 #[.pointer (some ⟨b, 0, none⟩), .int .i64 8, .int .u8 ((c : UInt8).toNat : Int)] w (Mo w B b (.tuple #[]) (rPlain ((73, p) :: r) f 73 c at_).1 (rPlain ((73, p) :: r) f 73 c at_).2 at_) := by
  obtain ⟨x0, x1, x2, x3, x4⟩ := h.cells
  have HM := Lib.hid h
  clear h
  go_enter Try.func74, Try.ntmps74
  go_wp2_with (first
    | (go_at_call 99
       refine (quoted_73 B b r p _ _ _ _ HM.out hl ht).mono ?_
       rintro e w1 ⟨rfl, hm1, hb1⟩
       obtain ⟨x0, x1, x2, x3, x4⟩ := hm1.cells
       have q1 : BM B w w1 := hb1
       have HM1 := Lib.hid hm1
       clear hm1))
  all_goals go_returns
  all_goals first
    | exact mo_mk HM1.out q1 rfl rfl
    | exact mo_mk (HM1.out.setFresh _) (BM.setCell q1 HM1.out _) rfl rfl

set_option maxHeartbeats 1000000 in
theorem pn_86 (B b : Nat) (r : Stk) (p : Int) (c : UInt8) (f : Bool) (at_ : Int) (w : World) (h : Mach w B b ((86, p) :: r) f at_) (hl : r.length ≤ 99990) (ht : r ≠ []) :
    Calls Try.prog 74 #[.pointer (some ⟨b, 0, none⟩), .int .i64 7, .int .u8 ((c : UInt8).toNat : Int)] w (Mo w B b (.tuple #[]) (rPlain ((86, p) :: r) f 86 c at_).1 (rPlain ((86, p) :: r) f 86 c at_).2 at_) := by
  obtain ⟨x0, x1, x2, x3, x4⟩ := h.cells
  have HM := Lib.hid h
  clear h
  go_enter Try.func74, Try.ntmps74
  go_wp2_with (first
    | (go_at_call 99
       refine (quoted_86 B b r p _ _ _ _ HM.out hl ht).mono ?_
       rintro e w1 ⟨rfl, hm1, hb1⟩
       obtain ⟨x0, x1, x2, x3, x4⟩ := hm1.cells
       have q1 : BM B w w1 := hb1
       have HM1 := Lib.hid hm1
       clear hm1))
  all_goals go_returns
  all_goals first
    | exact mo_mk HM1.out q1 rfl rfl
    | exact mo_mk (HM1.out.setFresh _) (BM.setCell q1 HM1.out _) rfl rfl

set_option maxHeartbeats 1000000 in
theorem pn_88_10t (B b : Nat) (r : Stk) (p : Int) (f : Bool) (at_ : Int) (w : World) (h : Mach w B b ((88, p) :: r) true at_) (hl : r.length ≤ 99990) (ht : r ≠ []) :
    Calls Try.prog 74 #[.pointer (some ⟨b, 0, none⟩), .int .i64 13, .int .u8 ((10 : UInt8).toNat : Int)] w (Mo w B b (.tuple #[]) r true at_) := by
  obtain ⟨x0, x1, x2, x3, x4⟩ := h.cells
  have HM := Lib.hid h
  clear h
  go_enter Try.func74, Try.ntmps74
  go_wp2_with (first
    | (go_at_call 73
       with_reducible refine (shut_m B b _ _ _ _ _ _ HM.out ht).mono ?_
       rintro e w1 ⟨rfl, hm1, hb1⟩
       obtain ⟨x0, x1, x2, x3, x4⟩ := hm1.cells
       have q1 : BM B w w1 := hb1
       have HM1 := Lib.hid hm1
       clear hm1))
  all_goals go_returns
  all_goals first
    | exact mo_mk HM1.out q1 rfl rfl
    | exact mo_mk (HM1.out.setFresh _) (BM.setCell q1 HM1.out _) rfl rfl

set_option maxHeartbeats 1000000 in
theorem pn_88_xt (B b : Nat) (r : Stk) (p : Int) (c : UInt8) (f : Bool) (at_ : Int) (w : World) (h : Mach w B b ((88, p) :: r) true at_) (hl : r.length ≤ 99990) (ht : r ≠ []) (hc10 : ((c.toNat : Int) == 10) = false)  :
    Calls Try.prog 74 #[.pointer (some ⟨b, 0, none⟩), .int .i64 13, .int .u8 ((c : UInt8).toNat : Int)] w (Mo w B b (.tuple #[]) r false at_) := by
  obtain ⟨x0, x1, x2, x3, x4⟩ := h.cells
  have HM := Lib.hid h
  clear h
  go_enter Try.func74, Try.ntmps74
  go_wp2_with (first
    | (go_at_call 73
       with_reducible refine (shut_m B b _ _ _ _ _ _ HM.out ht).mono ?_
       rintro e w1 ⟨rfl, hm1, hb1⟩
       obtain ⟨x0, x1, x2, x3, x4⟩ := hm1.cells
       have q1 : BM B w w1 := hb1
       have HM1 := Lib.hid hm1
       clear hm1))
  all_goals go_returns
  all_goals first
    | exact mo_mk HM1.out q1 rfl rfl
    | exact mo_mk (HM1.out.setFresh _) (BM.setCell q1 HM1.out _) rfl rfl

set_option maxHeartbeats 1000000 in
theorem pn_88_10f (B b : Nat) (r : Stk) (p : Int) (f : Bool) (at_ : Int) (w : World) (h : Mach w B b ((88, p) :: r) false at_) (hl : r.length ≤ 99990) (ht : r ≠ []) :
    Calls Try.prog 74 #[.pointer (some ⟨b, 0, none⟩), .int .i64 13, .int .u8 ((10 : UInt8).toNat : Int)] w (Mo w B b (.tuple #[]) r false at_) := by
  obtain ⟨x0, x1, x2, x3, x4⟩ := h.cells
  have HM := Lib.hid h
  clear h
  go_enter Try.func74, Try.ntmps74
  go_wp2_with (first
    | (go_at_call 73
       with_reducible refine (shut_m B b _ _ _ _ _ _ HM.out ht).mono ?_
       rintro e w1 ⟨rfl, hm1, hb1⟩
       obtain ⟨x0, x1, x2, x3, x4⟩ := hm1.cells
       have q1 : BM B w w1 := hb1
       have HM1 := Lib.hid hm1
       clear hm1))
  all_goals go_returns
  all_goals first
    | exact mo_mk HM1.out q1 rfl rfl
    | exact mo_mk (HM1.out.setFresh _) (BM.setCell q1 HM1.out _) rfl rfl

set_option maxHeartbeats 1000000 in
theorem pn_88_xf (B b : Nat) (r : Stk) (p : Int) (c : UInt8) (f : Bool) (at_ : Int) (w : World) (h : Mach w B b ((88, p) :: r) false at_) (hl : r.length ≤ 99990) (ht : r ≠ []) (hc10 : ((c.toNat : Int) == 10) = false)  :
    Calls Try.prog 74 #[.pointer (some ⟨b, 0, none⟩), .int .i64 13, .int .u8 ((c : UInt8).toNat : Int)] w (Mo w B b (.tuple #[]) r false at_) := by
  obtain ⟨x0, x1, x2, x3, x4⟩ := h.cells
  have HM := Lib.hid h
  clear h
  go_enter Try.func74, Try.ntmps74
  go_wp2_with (first
    | (go_at_call 73
       with_reducible refine (shut_m B b _ _ _ _ _ _ HM.out ht).mono ?_
       rintro e w1 ⟨rfl, hm1, hb1⟩
       obtain ⟨x0, x1, x2, x3, x4⟩ := hm1.cells
       have q1 : BM B w w1 := hb1
       have HM1 := Lib.hid hm1
       clear hm1))
  all_goals go_returns
  all_goals first
    | exact mo_mk HM1.out q1 rfl rfl
    | exact mo_mk (HM1.out.setFresh _) (BM.setCell q1 HM1.out _) rfl rfl

set_option maxHeartbeats 1000000 in
theorem pn_83_39 (B b : Nat) (r : Stk) (p : Int) (f : Bool) (at_ : Int) (w : World) (h : Mach w B b ((83, p) :: r) f at_) (hl : r.length ≤ 99990) (ht : r ≠ []) :
    Calls Try.prog 74 #[.pointer (some ⟨b, 0, none⟩), .int .i64 4, .int .u8 ((39 : UInt8).toNat : Int)] w (Mo w B b (.tuple #[]) r f at_) := by
  obtain ⟨x0, x1, x2, x3, x4⟩ := h.cells
  have HM := Lib.hid h
  clear h
  go_enter Try.func74, Try.ntmps74
  go_wp2_with (first
    | (go_at_call 73
       with_reducible refine (shut_m B b _ _ _ _ _ _ HM.out ht).mono ?_
       rintro e w1 ⟨rfl, hm1, hb1⟩
       obtain ⟨x0, x1, x2, x3, x4⟩ := hm1.cells
       have q1 : BM B w w1 := hb1
       have HM1 := Lib.hid hm1
       clear hm1))
  all_goals go_returns
  all_goals first
    | exact mo_mk HM1.out q1 rfl rfl
    | exact mo_mk (HM1.out.setFresh _) (BM.setCell q1 HM1.out _) rfl rfl

set_option maxHeartbeats 1000000 in
theorem pn_83_x (B b : Nat) (r : Stk) (p : Int) (c : UInt8) (f : Bool) (at_ : Int) (w : World) (h : Mach w B b ((83, p) :: r) f at_) (hl : r.length ≤ 99990) (hc39 : ((c.toNat : Int) == 39) = false)  :
    Calls Try.prog 74 #[.pointer (some ⟨b, 0, none⟩), .int .i64 4, .int .u8 ((c : UInt8).toNat : Int)] w (Mo w B b (.tuple #[]) ((83, p) :: r) f at_) := by
  obtain ⟨x0, x1, x2, x3, x4⟩ := h.cells
  have HM := Lib.hid h
  clear h
  go_enter Try.func74, Try.ntmps74
  go_wp2_with fail
  all_goals go_returns
  all_goals first
    | exact mo_mk HM.out (BM.refl _ _) rfl rfl
    | exact mo_mk (HM.out.setFresh _) (BM.setCell (BM.refl _ _) HM.out _) rfl rfl

set_option maxHeartbeats 1000000 in
theorem pn_35_10 (B b : Nat) (r : Stk) (p : Int) (f : Bool) (at_ : Int) (w : World) (h : Mach w B b ((35, p) :: r) f at_) (hl : r.length ≤ 99990) (ht : r ≠ []) :
    Calls Try.prog 74 #[.pointer (some ⟨b, 0, none⟩), .int .i64 14, .int .u8 ((10 : UInt8).toNat : Int)] w (Mo w B b (.tuple #[]) r true at_) := by
  obtain ⟨x0, x1, x2, x3, x4⟩ := h.cells
  have HM := Lib.hid h
  clear h
  go_enter Try.func74, Try.ntmps74
  go_wp2_with (first
    | (go_at_call 73
       with_reducible refine (shut_m B b _ _ _ _ _ _ HM.out ht).mono ?_
       rintro e w1 ⟨rfl, hm1, hb1⟩
       obtain ⟨x0, x1, x2, x3, x4⟩ := hm1.cells
       have q1 : BM B w w1 := hb1
       have HM1 := Lib.hid hm1
       clear hm1))
  all_goals go_returns
  all_goals first
    | exact mo_mk HM1.out q1 rfl rfl
    | exact mo_mk (HM1.out.setFresh _) (BM.setCell q1 HM1.out _) rfl rfl

set_option maxHeartbeats 1000000 in
theorem pn_35_x (B b : Nat) (r : Stk) (p : Int) (c : UInt8) (f : Bool) (at_ : Int) (w : World) (h : Mach w B b ((35, p) :: r) f at_) (hl : r.length ≤ 99990) (hc10 : ((c.toNat : Int) == 10) = false)  :
    Calls Try.prog 74 #[.pointer (some ⟨b, 0, none⟩), .int .i64 14, .int .u8 ((c : UInt8).toNat : Int)] w (Mo w B b (.tuple #[]) ((35, p) :: r) f at_) := by
  obtain ⟨x0, x1, x2, x3, x4⟩ := h.cells
  have HM := Lib.hid h
  clear h
  go_enter Try.func74, Try.ntmps74
  go_wp2_with fail
  all_goals go_returns
  all_goals first
    | exact mo_mk HM.out (BM.refl _ _) rfl rfl
    | exact mo_mk (HM.out.setFresh _) (BM.setCell (BM.refl _ _) HM.out _) rfl rfl

set_option maxHeartbeats 1000000 in
theorem pn_66_96 (B b : Nat) (r : Stk) (p : Int) (f : Bool) (at_ : Int) (w : World) (h : Mach w B b ((66, p) :: r) f at_) (hl : r.length ≤ 99990) (ht : r ≠ []) :
    Calls Try.prog 74 #[.pointer (some ⟨b, 0, none⟩), .int .i64 6, .int .u8 ((96 : UInt8).toNat : Int)] w (Mo w B b (.tuple #[]) r f at_) := by
  obtain ⟨x0, x1, x2, x3, x4⟩ := h.cells
  have HM := Lib.hid h
  clear h
  go_enter Try.func74, Try.ntmps74
  go_wp2_with (first
    | (go_at_call 73
       with_reducible refine (shut_m B b _ _ _ _ _ _ HM.out ht).mono ?_
       rintro e w1 ⟨rfl, hm1, hb1⟩
       obtain ⟨x0, x1, x2, x3, x4⟩ := hm1.cells
       have q1 : BM B w w1 := hb1
       have HM1 := Lib.hid hm1
       clear hm1))
  all_goals go_returns
  all_goals first
    | exact mo_mk HM1.out q1 rfl rfl
    | exact mo_mk (HM1.out.setFresh _) (BM.setCell q1 HM1.out _) rfl rfl

set_option maxHeartbeats 1000000 in
theorem pn_66_92 (B b : Nat) (r : Stk) (p : Int) (f : Bool) (at_ : Int) (w : World) (h : Mach w B b ((66, p) :: r) f at_) (hl : r.length ≤ 99990)  :
    Calls Try.prog 74 #[.pointer (some ⟨b, 0, none⟩), .int .i64 6, .int .u8 ((92 : UInt8).toNat : Int)] w (Mo w B b (.tuple #[]) ((88, at_) :: (66, p) :: r) f at_) := by
  obtain ⟨x0, x1, x2, x3, x4⟩ := h.cells
  have HM := Lib.hid h
  clear h
  go_enter Try.func74, Try.ntmps74
  go_wp2_with (first
    | (go_at_call 97
       with_reducible refine (open_k B b _ _ _ 88 13 _ rfl HM.out (by simp) (by simp at *; omega)).mono ?_
       rintro e w1 ⟨rfl, hm1, hb1⟩
       obtain ⟨x0, x1, x2, x3, x4⟩ := hm1.cells
       have q1 : BM B w w1 := hb1
       have HM1 := Lib.hid hm1
       clear hm1))
  all_goals go_returns
  all_goals first
    | exact mo_mk HM1.out q1 rfl rfl
    | exact mo_mk (HM1.out.setFresh _) (BM.setCell q1 HM1.out _) rfl rfl

set_option maxHeartbeats 1000000 in
theorem pn_66_x (B b : Nat) (r : Stk) (p : Int) (c : UInt8) (f : Bool) (at_ : Int) (w : World) (h : Mach w B b ((66, p) :: r) f at_) (hl : r.length ≤ 99990) (hc96 : ((c.toNat : Int) == 96) = false) (hc92 : ((c.toNat : Int) == 92) = false)  :
    Calls Try.prog 74 #[.pointer (some ⟨b, 0, none⟩), .int .i64 6, .int .u8 ((c : UInt8).toNat : Int)] w (Mo w B b (.tuple #[]) ((66, p) :: r) f at_) := by
  obtain ⟨x0, x1, x2, x3, x4⟩ := h.cells
  have HM := Lib.hid h
  clear h
  go_enter Try.func74, Try.ntmps74
  go_wp2_with fail
  all_goals go_returns
  all_goals first
    | exact mo_mk HM.out (BM.refl _ _) rfl rfl
    | exact mo_mk (HM.out.setFresh _) (BM.setCell (BM.refl _ _) HM.out _) rfl rfl

theorem plain_m (B b0 : Nat) (r : Stk) (c : UInt8) (p m : Int) (b : UInt8) (f : Bool) (at_ : Int) (w : World) (hm : m = modeOf c) (h : Mach w B b0 ((c, p) :: r) f at_) (hl : r.length ≤ 99990) (ht : c ≠ 84 → r ≠ [])
    (hc : c = 84 ∨ c = 67 ∨ c = 80 ∨ c = 65 ∨ c = 82 ∨ c = 68 ∨ c = 73 ∨ c = 86 ∨ c = 88 ∨ c = 83 ∨ c = 35 ∨ c = 66) :
    Calls Try.prog 74 #[.pointer (some ⟨b0, 0, none⟩), .int .i64 m, .int .u8 (b.toNat : Int)] w (Mo w B b0 (.tuple #[]) (rPlain ((c, p) :: r) f c b at_).1 (rPlain ((c, p) :: r) f c b at_).2 at_) := by
  rcases hc with rfl | rfl | rfl | rfl | rfl | rfl | rfl | rfl | rfl | rfl | rfl | rfl
  · obtain rfl : m = 0 := hm
    exact pn_84 B b0 r p b f at_ w h hl
  · obtain rfl : m = 1 := hm
    exact pn_67 B b0 r p b f at_ w h hl (ht (by decide))
  · obtain rfl : m = 2 := hm
    exact pn_80 B b0 r p b f at_ w h hl (ht (by decide))
  · obtain rfl : m = 9 := hm
    exact pn_65 B b0 r p b f at_ w h hl (ht (by decide))
  · obtain rfl : m = 10 := hm
    exact pn_82 B b0 r p b f at_ w h hl (ht (by decide))
  · obtain rfl : m = 5 := hm
    exact pn_68 B b0 r p b f at_ w h hl (ht (by decide))
  · obtain rfl : m = 8 := hm
    exact pn_73 B b0 r p b f at_ w h hl (ht (by decide))
  · obtain rfl : m = 7 := hm
    exact pn_86 B b0 r p b f at_ w h hl (ht (by decide))
  · obtain rfl : m = 13 := hm
    have ht := ht (by decide)
    rcases Decidable.em (b = 10) with rfl | hb10
    · have e : rPlain ((88, p) :: r) f 88 10 at_ = (r, f) := by simp [rPlain]
      rw [e]
      cases f
      · exact pn_88_10f B b0 r p false at_ w h hl ht
      · exact pn_88_10t B b0 r p true at_ w h hl ht
    have n10 : b.toNat ≠ 10 := nn hb10
    have e : rPlain ((88, p) :: r) f 88 b at_ = (r, false) := by simp [rPlain, n10]
    rw [e]
    cases f
    · exact pn_88_xf B b0 r p b false at_ w h hl ht (bf b 10 hb10)
    · exact pn_88_xt B b0 r p b true at_ w h hl ht (bf b 10 hb10)
  · obtain rfl : m = 4 := hm
    have ht := ht (by decide)
    rcases Decidable.em (b = 39) with rfl | hb39
    · have e : rPlain ((83, p) :: r) f 83 39 at_ = (r, f) := by simp [rPlain]
      rw [e]
      exact pn_83_39 B b0 r p f at_ w h hl ht
    have n39 : b.toNat ≠ 39 := nn hb39
    have e : rPlain ((83, p) :: r) f 83 b at_ = (((83, p) :: r), f) := by simp [rPlain, n39]
    rw [e]
    exact pn_83_x B b0 r p b f at_ w h hl (bf b 39 hb39)
  · obtain rfl : m = 14 := hm
    have ht := ht (by decide)
    rcases Decidable.em (b = 10) with rfl | hb10
    · have e : rPlain ((35, p) :: r) f 35 10 at_ = (r, true) := by simp [rPlain]
      rw [e]
      exact pn_35_10 B b0 r p f at_ w h hl ht
    have n10 : b.toNat ≠ 10 := nn hb10
    have e : rPlain ((35, p) :: r) f 35 b at_ = (((35, p) :: r), f) := by simp [rPlain, n10]
    rw [e]
    exact pn_35_x B b0 r p b f at_ w h hl (bf b 10 hb10)
  · obtain rfl : m = 6 := hm
    have ht := ht (by decide)
    rcases Decidable.em (b = 96) with rfl | hb96
    · have e : rPlain ((66, p) :: r) f 66 96 at_ = (r, f) := by simp [rPlain]
      rw [e]
      exact pn_66_96 B b0 r p f at_ w h hl ht
    have n96 : b.toNat ≠ 96 := nn hb96
    rcases Decidable.em (b = 92) with rfl | hb92
    · have e : rPlain ((66, p) :: r) f 66 92 at_ = (((88, at_) :: (66, p) :: r), f) := by simp [rPlain]
      rw [e]
      exact pn_66_92 B b0 r p f at_ w h hl
    have n92 : b.toNat ≠ 92 := nn hb92
    have e : rPlain ((66, p) :: r) f 66 b at_ = (((66, p) :: r), f) := by simp [rPlain, n96, n92]
    rw [e]
    exact pn_66_x B b0 r p b f at_ w h hl (bf b 96 hb96) (bf b 92 hb92)
end Go.Proofs.Ytjkiapgboljabaa
