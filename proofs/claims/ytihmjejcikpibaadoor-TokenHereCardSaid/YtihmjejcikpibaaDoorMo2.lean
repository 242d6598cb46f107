/- The program's machine: a byte comes to Arith or Round (modes.arith), to Double, Param or Inner (modes.quoted). -/
import Derived.Test.YtihmjejcikpibaaDoorMo1
namespace Go.Proofs.YtihmjejcikpibaaDoor
open Go.RowKit
set_option linter.unusedVariables false
set_option linter.unusedSimpArgs false
set_option maxRecDepth 100000
set_option maxHeartbeats 1000000 in
theorem ar_yes (B b : Nat) (r : Stk) (p : Int) (m : Int) (x c d : UInt8) (f : Bool) (at_ : Int) (w : World) (h : Mach w B b ((x, p) :: r) f at_) (hl : r.length ≤ 99990) (hd : opensL c = [d]) :
    Calls Tryd.prog 87 #[.pointer (some ⟨b, 0, none⟩), .int .i64 m, .int .u8 ((c : UInt8).toNat : Int)] w (Mo w B b (.tuple #[]) ((d, at_) :: (x, p) :: r) f at_) := by
  obtain ⟨x0, x1, x2, x3, x4⟩ := h.cells
  have HM := Lib.hid h
  clear h
  go_enter Tryd.func87, Tryd.ntmps87
  go_wp2_with (first
    | (go_at_call 97
       refine (inner_yes B b _ _ _ _ _ _ HM.out (by simp) (by simp; omega) hd).mono ?_
       rintro e w1 ⟨rfl, hm1, hb1⟩
       obtain ⟨x0, x1, x2, x3, x4⟩ := hm1.cells
       have q1 : BM B w w1 := hb1
       have HM1 := Lib.hid hm1
       clear hm1))
  all_goals go_returns
  all_goals exact mo_mk HM1.out q1 rfl rfl

set_option maxHeartbeats 1000000 in
theorem ar_40 (B b : Nat) (r : Stk) (p : Int) (m : Int) (x : UInt8) (f : Bool) (at_ : Int) (w : World) (h : Mach w B b ((x, p) :: r) f at_) (hl : r.length ≤ 99990) :
    Calls Tryd.prog 87 #[.pointer (some ⟨b, 0, none⟩), .int .i64 m, .int .u8 ((40 : UInt8).toNat : Int)] w (Mo w B b (.tuple #[]) ((82, at_) :: (x, p) :: r) f at_) := by
  obtain ⟨x0, x1, x2, x3, x4⟩ := h.cells
  have HM := Lib.hid h
  clear h
  go_enter Tryd.func87, Tryd.ntmps87
  go_wp2_with (first
    | (go_at_call 97
       refine (inner_no B b _ 40 _ _ _ HM.out (by decide) (by decide) (by decide)).mono ?_
       rintro e w1 ⟨rfl, hm1, hb1⟩
       obtain ⟨x0, x1, x2, x3, x4⟩ := hm1.cells
       have q1 : BM B w w1 := hb1
       have HM1 := Lib.hid hm1
       clear hm1)
    | (go_at_call 86
       with_reducible refine (open_k B b _ _ _ 82 10 _ rfl HM1.out (by simp) (by simp at *; omega)).mono ?_
       rintro e w2 ⟨rfl, hm2, hb2⟩
       obtain ⟨x0, x1, x2, x3, x4⟩ := hm2.cells
       have q2 : BM B w w2 := q1.trans hb2
       have HM2 := Lib.hid hm2
       clear hm2))
  all_goals go_returns
  all_goals exact mo_mk HM2.out q2 rfl rfl

set_option maxHeartbeats 1000000 in
theorem ar_41_82 (B b : Nat) (r : Stk) (p : Int) (f : Bool) (at_ : Int) (w : World) (h : Mach w B b ((82, p) :: r) f at_) (hl : r.length ≤ 99990) (ht : r ≠ []) :
    Calls Tryd.prog 87 #[.pointer (some ⟨b, 0, none⟩), .int .i64 10, .int .u8 ((41 : UInt8).toNat : Int)] w (Mo w B b (.tuple #[]) r f at_) := by
  obtain ⟨x0, x1, x2, x3, x4⟩ := h.cells
  have HM := Lib.hid h
  clear h
  go_enter Tryd.func87, Tryd.ntmps87
  go_wp2_with (first
    | (go_at_call 97
       refine (inner_no B b _ 41 _ _ _ HM.out (by decide) (by decide) (by decide)).mono ?_
       rintro e w1 ⟨rfl, hm1, hb1⟩
       obtain ⟨x0, x1, x2, x3, x4⟩ := hm1.cells
       have q1 : BM B w w1 := hb1
       have HM1 := Lib.hid hm1
       clear hm1)
    | (go_at_call 66
       with_reducible refine (shut_m B b _ _ _ _ _ _ HM1.out ht).mono ?_
       rintro e w2 ⟨rfl, hm2, hb2⟩
       obtain ⟨x0, x1, x2, x3, x4⟩ := hm2.cells
       have q2 : BM B w w2 := q1.trans hb2
       have HM2 := Lib.hid hm2
       clear hm2))
  all_goals go_returns
  all_goals exact mo_mk HM2.out q2 rfl rfl

set_option maxHeartbeats 1000000 in
theorem ar_41_65 (B b : Nat) (r : Stk) (p : Int) (f : Bool) (at_ : Int) (w : World) (h : Mach w B b ((65, p) :: r) f at_) (hl : r.length ≤ 99990) :
    Calls Tryd.prog 87 #[.pointer (some ⟨b, 0, none⟩), .int .i64 9, .int .u8 ((41 : UInt8).toNat : Int)] w (Mo w B b (.tuple #[]) ((69, p) :: r) f at_) := by
  obtain ⟨x0, x1, x2, x3, x4⟩ := h.cells
  have HM := Lib.hid h
  clear h
  go_enter Tryd.func87, Tryd.ntmps87
  go_wp2_with (first
    | (go_at_call 97
       refine (inner_no B b _ 41 _ _ _ HM.out (by decide) (by decide) (by decide)).mono ?_
       rintro e w1 ⟨rfl, hm1, hb1⟩
       obtain ⟨x0, x1, x2, x3, x4⟩ := hm1.cells
       have q1 : BM B w w1 := hb1
       have HM1 := Lib.hid hm1
       clear hm1)
    | (go_at_call 65
       with_reducible refine (become_k B b _ _ _ _ _ 69 11 _ rfl HM1.out).mono ?_
       rintro e w2 ⟨rfl, hm2, hb2⟩
       obtain ⟨x0, x1, x2, x3, x4⟩ := hm2.cells
       have q2 : BM B w w2 := q1.trans hb2
       have HM2 := Lib.hid hm2
       clear hm2))
  all_goals go_returns
  all_goals exact mo_mk HM2.out q2 rfl rfl

set_option maxHeartbeats 1000000 in
theorem ar_no (B b : Nat) (r : Stk) (p : Int) (m : Int) (x c : UInt8) (f : Bool) (at_ : Int) (w : World) (h : Mach w B b ((x, p) :: r) f at_) (hl : r.length ≤ 99990) (h92 : ((c.toNat : Int) == 92) = false) (h36 : ((c.toNat : Int) == 36) = false) (h96 : ((c.toNat : Int) == 96) = false) (hc40 : ((c.toNat : Int) == 40) = false) (hc41 : ((c.toNat : Int) == 41) = false)  :
    Calls Tryd.prog 87 #[.pointer (some ⟨b, 0, none⟩), .int .i64 m, .int .u8 ((c : UInt8).toNat : Int)] w (Mo w B b (.tuple #[]) ((x, p) :: r) f at_) := by
  obtain ⟨x0, x1, x2, x3, x4⟩ := h.cells
  have HM := Lib.hid h
  clear h
  go_enter Tryd.func87, Tryd.ntmps87
  go_wp2_with (first
    | (go_at_call 97
       refine (inner_no B b _ _ _ _ _ HM.out h92 h36 h96).mono ?_
       rintro e w1 ⟨rfl, hm1, hb1⟩
       obtain ⟨x0, x1, x2, x3, x4⟩ := hm1.cells
       have q1 : BM B w w1 := hb1
       have HM1 := Lib.hid hm1
       clear hm1))
  all_goals go_returns
  all_goals exact mo_mk HM1.out q1 rfl rfl

set_option maxHeartbeats 1000000 in
theorem qu_yes (B b : Nat) (r : Stk) (p : Int) (m : Int) (x c d : UInt8) (f : Bool) (at_ : Int) (w : World) (h : Mach w B b ((x, p) :: r) f at_) (hl : r.length ≤ 99990) (hd : opensL c = [d]) :
    Calls Tryd.prog 88 #[.pointer (some ⟨b, 0, none⟩), .int .i64 m, .int .u8 ((c : UInt8).toNat : Int)] w (Mo w B b (.tuple #[]) ((d, at_) :: (x, p) :: r) f at_) := by
  obtain ⟨x0, x1, x2, x3, x4⟩ := h.cells
  have HM := Lib.hid h
  clear h
  go_enter Tryd.func88, Tryd.ntmps88
  go_wp2_with (first
    | (go_at_call 97
       refine (inner_yes B b _ _ _ _ _ _ HM.out (by simp) (by simp; omega) hd).mono ?_
       rintro e w1 ⟨rfl, hm1, hb1⟩
       obtain ⟨x0, x1, x2, x3, x4⟩ := hm1.cells
       have q1 : BM B w w1 := hb1
       have HM1 := Lib.hid hm1
       clear hm1))
  all_goals go_returns
  all_goals exact mo_mk HM1.out q1 rfl rfl

set_option maxHeartbeats 1000000 in
theorem qu_34_68 (B b : Nat) (r : Stk) (p : Int) (f : Bool) (at_ : Int) (w : World) (h : Mach w B b ((68, p) :: r) f at_) (hl : r.length ≤ 99990) (ht : r ≠ []) :
    Calls Tryd.prog 88 #[.pointer (some ⟨b, 0, none⟩), .int .i64 5, .int .u8 ((34 : UInt8).toNat : Int)] w (Mo w B b (.tuple #[]) r f at_) := by
  obtain ⟨x0, x1, x2, x3, x4⟩ := h.cells
  have HM := Lib.hid h
  clear h
  go_enter Tryd.func88, Tryd.ntmps88
  go_wp2_with (first
    | (go_at_call 97
       refine (inner_no B b _ 34 _ _ _ HM.out (by decide) (by decide) (by decide)).mono ?_
       rintro e w1 ⟨rfl, hm1, hb1⟩
       obtain ⟨x0, x1, x2, x3, x4⟩ := hm1.cells
       have q1 : BM B w w1 := hb1
       have HM1 := Lib.hid hm1
       clear hm1)
    | (go_at_call 66
       with_reducible refine (shut_m B b _ _ _ _ _ _ HM1.out ht).mono ?_
       rintro e w2 ⟨rfl, hm2, hb2⟩
       obtain ⟨x0, x1, x2, x3, x4⟩ := hm2.cells
       have q2 : BM B w w2 := q1.trans hb2
       have HM2 := Lib.hid hm2
       clear hm2))
  all_goals go_returns
  all_goals exact mo_mk HM2.out q2 rfl rfl

set_option maxHeartbeats 1000000 in
theorem qu_34_x (B b : Nat) (r : Stk) (p : Int) (m : Int) (x : UInt8) (f : Bool) (at_ : Int) (w : World) (h : Mach w B b ((x, p) :: r) f at_) (hl : r.length ≤ 99990) (hm5 : (m == 5) = false) :
    Calls Tryd.prog 88 #[.pointer (some ⟨b, 0, none⟩), .int .i64 m, .int .u8 ((34 : UInt8).toNat : Int)] w (Mo w B b (.tuple #[]) ((68, at_) :: (x, p) :: r) f at_) := by
  obtain ⟨x0, x1, x2, x3, x4⟩ := h.cells
  have HM := Lib.hid h
  clear h
  go_enter Tryd.func88, Tryd.ntmps88
  go_wp2_with (first
    | (go_at_call 97
       refine (inner_no B b _ 34 _ _ _ HM.out (by decide) (by decide) (by decide)).mono ?_
       rintro e w1 ⟨rfl, hm1, hb1⟩
       obtain ⟨x0, x1, x2, x3, x4⟩ := hm1.cells
       have q1 : BM B w w1 := hb1
       have HM1 := Lib.hid hm1
       clear hm1)
    | (go_at_call 86
       with_reducible refine (open_k B b _ _ _ 68 5 _ rfl HM1.out (by simp) (by simp at *; omega)).mono ?_
       rintro e w2 ⟨rfl, hm2, hb2⟩
       obtain ⟨x0, x1, x2, x3, x4⟩ := hm2.cells
       have q2 : BM B w w2 := q1.trans hb2
       have HM2 := Lib.hid hm2
       clear hm2))
  all_goals go_returns
  all_goals exact mo_mk HM2.out q2 rfl rfl

set_option maxHeartbeats 1000000 in
theorem qu_125_x (B b : Nat) (r : Stk) (p : Int) (m : Int) (x : UInt8) (f : Bool) (at_ : Int) (w : World) (h : Mach w B b ((x, p) :: r) f at_) (hl : r.length ≤ 99990) (hm5 : (m == 5) = false) (hm5n : (m != 5) = true) (ht : r ≠ []) :
    Calls Tryd.prog 88 #[.pointer (some ⟨b, 0, none⟩), .int .i64 m, .int .u8 ((125 : UInt8).toNat : Int)] w (Mo w B b (.tuple #[]) r f at_) := by
  obtain ⟨x0, x1, x2, x3, x4⟩ := h.cells
  have HM := Lib.hid h
  clear h
  go_enter Tryd.func88, Tryd.ntmps88
  go_wp2_with (first
    | (go_at_call 97
       refine (inner_no B b _ 125 _ _ _ HM.out (by decide) (by decide) (by decide)).mono ?_
       rintro e w1 ⟨rfl, hm1, hb1⟩
       obtain ⟨x0, x1, x2, x3, x4⟩ := hm1.cells
       have q1 : BM B w w1 := hb1
       have HM1 := Lib.hid hm1
       clear hm1)
    | (go_at_call 66
       with_reducible refine (shut_m B b _ _ _ _ _ _ HM1.out ht).mono ?_
       rintro e w2 ⟨rfl, hm2, hb2⟩
       obtain ⟨x0, x1, x2, x3, x4⟩ := hm2.cells
       have q2 : BM B w w2 := q1.trans hb2
       have HM2 := Lib.hid hm2
       clear hm2))
  all_goals go_returns
  all_goals exact mo_mk HM2.out q2 rfl rfl

set_option maxHeartbeats 1000000 in
theorem qu_39_86 (B b : Nat) (r : Stk) (p : Int) (f : Bool) (at_ : Int) (w : World) (h : Mach w B b ((86, p) :: r) f at_) (hl : r.length ≤ 99990) :
    Calls Tryd.prog 88 #[.pointer (some ⟨b, 0, none⟩), .int .i64 7, .int .u8 ((39 : UInt8).toNat : Int)] w (Mo w B b (.tuple #[]) ((83, at_) :: (86, p) :: r) f at_) := by
  obtain ⟨x0, x1, x2, x3, x4⟩ := h.cells
  have HM := Lib.hid h
  clear h
  go_enter Tryd.func88, Tryd.ntmps88
  go_wp2_with (first
    | (go_at_call 97
       refine (inner_no B b _ 39 _ _ _ HM.out (by decide) (by decide) (by decide)).mono ?_
       rintro e w1 ⟨rfl, hm1, hb1⟩
       obtain ⟨x0, x1, x2, x3, x4⟩ := hm1.cells
       have q1 : BM B w w1 := hb1
       have HM1 := Lib.hid hm1
       clear hm1)
    | (go_at_call 86
       with_reducible refine (open_k B b _ _ _ 83 4 _ rfl HM1.out (by simp) (by simp at *; omega)).mono ?_
       rintro e w2 ⟨rfl, hm2, hb2⟩
       obtain ⟨x0, x1, x2, x3, x4⟩ := hm2.cells
       have q2 : BM B w w2 := q1.trans hb2
       have HM2 := Lib.hid hm2
       clear hm2))
  all_goals go_returns
  all_goals exact mo_mk HM2.out q2 rfl rfl

set_option maxHeartbeats 1000000 in
theorem qu_no_68 (B b : Nat) (r : Stk) (p : Int) (c : UInt8) (f : Bool) (at_ : Int) (w : World) (h : Mach w B b ((68, p) :: r) f at_) (hl : r.length ≤ 99990) (h92 : ((c.toNat : Int) == 92) = false) (h36 : ((c.toNat : Int) == 36) = false) (h96 : ((c.toNat : Int) == 96) = false) (hc34 : ((c.toNat : Int) == 34) = false)  :
    Calls Tryd.prog 88 #[.pointer (some ⟨b, 0, none⟩), .int .i64 5, .int .u8 ((c : UInt8).toNat : Int)] w (Mo w B b (.tuple #[]) ((68, p) :: r) f at_) := by
  obtain ⟨x0, x1, x2, x3, x4⟩ := h.cells
  have HM := Lib.hid h
  clear h
  go_enter Tryd.func88, Tryd.ntmps88
  go_wp2_with (first
    | (go_at_call 97
       refine (inner_no B b _ _ _ _ _ HM.out h92 h36 h96).mono ?_
       rintro e w1 ⟨rfl, hm1, hb1⟩
       obtain ⟨x0, x1, x2, x3, x4⟩ := hm1.cells
       have q1 : BM B w w1 := hb1
       have HM1 := Lib.hid hm1
       clear hm1))
  all_goals go_returns
  all_goals exact mo_mk HM1.out q1 rfl rfl

set_option maxHeartbeats 1000000 in
theorem qu_no_73 (B b : Nat) (r : Stk) (p : Int) (c : UInt8) (f : Bool) (at_ : Int) (w : World) (h : Mach w B b ((73, p) :: r) f at_) (hl : r.length ≤ 99990) (h92 : ((c.toNat : Int) == 92) = false) (h36 : ((c.toNat : Int) == 36) = false) (h96 : ((c.toNat : Int) == 96) = false) (hc34 : ((c.toNat : Int) == 34) = false) (hc125 : ((c.toNat : Int) == 125) = false)  :
    Calls Tryd.prog 88 #[.pointer (some ⟨b, 0, none⟩), .int .i64 8, .int .u8 ((c : UInt8).toNat : Int)] w (Mo w B b (.tuple #[]) ((73, p) :: r) f at_) := by
  obtain ⟨x0, x1, x2, x3, x4⟩ := h.cells
  have HM := Lib.hid h
  clear h
  go_enter Tryd.func88, Tryd.ntmps88
  go_wp2_with (first
    | (go_at_call 97
       refine (inner_no B b _ _ _ _ _ HM.out h92 h36 h96).mono ?_
       rintro e w1 ⟨rfl, hm1, hb1⟩
       obtain ⟨x0, x1, x2, x3, x4⟩ := hm1.cells
       have q1 : BM B w w1 := hb1
       have HM1 := Lib.hid hm1
       clear hm1))
  all_goals go_returns
  all_goals exact mo_mk HM1.out q1 rfl rfl

set_option maxHeartbeats 1000000 in
theorem qu_no_86 (B b : Nat) (r : Stk) (p : Int) (c : UInt8) (f : Bool) (at_ : Int) (w : World) (h : Mach w B b ((86, p) :: r) f at_) (hl : r.length ≤ 99990) (h92 : ((c.toNat : Int) == 92) = false) (h36 : ((c.toNat : Int) == 36) = false) (h96 : ((c.toNat : Int) == 96) = false) (hc34 : ((c.toNat : Int) == 34) = false) (hc125 : ((c.toNat : Int) == 125) = false) (hc39 : ((c.toNat : Int) == 39) = false)  :
    Calls Tryd.prog 88 #[.pointer (some ⟨b, 0, none⟩), .int .i64 7, .int .u8 ((c : UInt8).toNat : Int)] w (Mo w B b (.tuple #[]) ((86, p) :: r) f at_) := by
  obtain ⟨x0, x1, x2, x3, x4⟩ := h.cells
  have HM := Lib.hid h
  clear h
  go_enter Tryd.func88, Tryd.ntmps88
  go_wp2_with (first
    | (go_at_call 97
       refine (inner_no B b _ _ _ _ _ HM.out h92 h36 h96).mono ?_
       rintro e w1 ⟨rfl, hm1, hb1⟩
       obtain ⟨x0, x1, x2, x3, x4⟩ := hm1.cells
       have q1 : BM B w w1 := hb1
       have HM1 := Lib.hid hm1
       clear hm1))
  all_goals go_returns
  all_goals exact mo_mk HM1.out q1 rfl rfl

end Go.Proofs.YtihmjejcikpibaaDoor
