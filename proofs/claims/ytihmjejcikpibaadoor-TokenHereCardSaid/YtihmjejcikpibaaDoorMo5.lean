/- The program's machine: arith, quoted and program come to what the plain step says. -/
import Derived.Test.YtihmjejcikpibaaDoorMo2
import Derived.Test.YtihmjejcikpibaaDoorMo3
namespace Go.Proofs.YtihmjejcikpibaaDoor
open Go.RowKit
set_option linter.unusedVariables false
set_option linter.unusedSimpArgs false
set_option maxRecDepth 100000
theorem bf (b v : UInt8) (h : b ≠ v) : ((b.toNat : Int) == (v.toNat : Int)) = false := by
  rw [beq_eq_false_iff_ne]
  intro e
  exact h (UInt8.toNat_inj.1 (by omega))
theorem nn {b v : UInt8} (h : b ≠ v) : b.toNat ≠ v.toNat := fun e => h (UInt8.toNat_inj.1 e)
theorem arith_65 (B b0 : Nat) (r : Stk) (p : Int) (b : UInt8) (f : Bool) (at_ : Int) (w : World) (h : Mach w B b0 ((65, p) :: r) f at_) (hl : r.length ≤ 99990) (ht : r ≠ []) :
    Calls Tryd.prog 87 #[.pointer (some ⟨b0, 0, none⟩), .int .i64 9, .int .u8 (b.toNat : Int)] w (Mo w B b0 (.tuple #[]) (rPlain ((65, p) :: r) f 65 b at_).1 (rPlain ((65, p) :: r) f 65 b at_).2 at_) := by
  rcases Decidable.em (b = 92) with rfl | hb92
  · have e : rPlain ((65, p) :: r) f 65 92 at_ = (((88, at_) :: (65, p) :: r), f) := by simp [rPlain, rProgram]
    rw [e]
    exact ar_yes B b0 r p 9 65 92 88 f at_ w h hl (by decide)
  have n92 : b.toNat ≠ 92 := nn hb92
  rcases Decidable.em (b = 36) with rfl | hb36
  · have e : rPlain ((65, p) :: r) f 65 36 at_ = (((76, at_) :: (65, p) :: r), f) := by simp [rPlain, rProgram]
    rw [e]
    exact ar_yes B b0 r p 9 65 36 76 f at_ w h hl (by decide)
  have n36 : b.toNat ≠ 36 := nn hb36
  rcases Decidable.em (b = 96) with rfl | hb96
  · have e : rPlain ((65, p) :: r) f 65 96 at_ = (((66, at_) :: (65, p) :: r), f) := by simp [rPlain, rProgram]
    rw [e]
    exact ar_yes B b0 r p 9 65 96 66 f at_ w h hl (by decide)
  have n96 : b.toNat ≠ 96 := nn hb96
  rcases Decidable.em (b = 40) with rfl | hb40
  · have e : rPlain ((65, p) :: r) f 65 40 at_ = (((82, at_) :: (65, p) :: r), f) := by simp [rPlain, rProgram]
    rw [e]
    exact ar_40 B b0 r p 9 65 f at_ w h hl
  have n40 : b.toNat ≠ 40 := nn hb40
  rcases Decidable.em (b = 41) with rfl | hb41
  · have e : rPlain ((65, p) :: r) f 65 41 at_ = (((69, p) :: r), f) := by simp [rPlain, rProgram]
    rw [e]
    exact ar_41_65 B b0 r p f at_ w h hl
  have n41 : b.toNat ≠ 41 := nn hb41
  have e : rPlain ((65, p) :: r) f 65 b at_ = (((65, p) :: r), f) := by simp [rPlain, rProgram, n92, n36, n96, n40, n41]
  rw [e]
  exact ar_no B b0 r p 9 65 b f at_ w h hl (bf b 92 hb92) (bf b 36 hb36) (bf b 96 hb96) (bf b 40 hb40) (bf b 41 hb41)
theorem arith_82 (B b0 : Nat) (r : Stk) (p : Int) (b : UInt8) (f : Bool) (at_ : Int) (w : World) (h : Mach w B b0 ((82, p) :: r) f at_) (hl : r.length ≤ 99990) (ht : r ≠ []) :
    Calls Tryd.prog 87 #[.pointer (some ⟨b0, 0, none⟩), .int .i64 10, .int .u8 (b.toNat : Int)] w (Mo w B b0 (.tuple #[]) (rPlain ((82, p) :: r) f 82 b at_).1 (rPlain ((82, p) :: r) f 82 b at_).2 at_) := by
  rcases Decidable.em (b = 92) with rfl | hb92
  · have e : rPlain ((82, p) :: r) f 82 92 at_ = (((88, at_) :: (82, p) :: r), f) := by simp [rPlain, rProgram]
    rw [e]
    exact ar_yes B b0 r p 10 82 92 88 f at_ w h hl (by decide)
  have n92 : b.toNat ≠ 92 := nn hb92
  rcases Decidable.em (b = 36) with rfl | hb36
  · have e : rPlain ((82, p) :: r) f 82 36 at_ = (((76, at_) :: (82, p) :: r), f) := by simp [rPlain, rProgram]
    rw [e]
    exact ar_yes B b0 r p 10 82 36 76 f at_ w h hl (by decide)
  have n36 : b.toNat ≠ 36 := nn hb36
  rcases Decidable.em (b = 96) with rfl | hb96
  · have e : rPlain ((82, p) :: r) f 82 96 at_ = (((66, at_) :: (82, p) :: r), f) := by simp [rPlain, rProgram]
    rw [e]
    exact ar_yes B b0 r p 10 82 96 66 f at_ w h hl (by decide)
  have n96 : b.toNat ≠ 96 := nn hb96
  rcases Decidable.em (b = 40) with rfl | hb40
  · have e : rPlain ((82, p) :: r) f 82 40 at_ = (((82, at_) :: (82, p) :: r), f) := by simp [rPlain, rProgram]
    rw [e]
    exact ar_40 B b0 r p 10 82 f at_ w h hl
  have n40 : b.toNat ≠ 40 := nn hb40
  rcases Decidable.em (b = 41) with rfl | hb41
  · have e : rPlain ((82, p) :: r) f 82 41 at_ = (r, f) := by simp [rPlain, rProgram]
    rw [e]
    exact ar_41_82 B b0 r p f at_ w h hl ht
  have n41 : b.toNat ≠ 41 := nn hb41
  have e : rPlain ((82, p) :: r) f 82 b at_ = (((82, p) :: r), f) := by simp [rPlain, rProgram, n92, n36, n96, n40, n41]
  rw [e]
  exact ar_no B b0 r p 10 82 b f at_ w h hl (bf b 92 hb92) (bf b 36 hb36) (bf b 96 hb96) (bf b 40 hb40) (bf b 41 hb41)
theorem quoted_68 (B b0 : Nat) (r : Stk) (p : Int) (b : UInt8) (f : Bool) (at_ : Int) (w : World) (h : Mach w B b0 ((68, p) :: r) f at_) (hl : r.length ≤ 99990) (ht : r ≠ []) :
    Calls Tryd.prog 88 #[.pointer (some ⟨b0, 0, none⟩), .int .i64 5, .int .u8 (b.toNat : Int)] w (Mo w B b0 (.tuple #[]) (rPlain ((68, p) :: r) f 68 b at_).1 (rPlain ((68, p) :: r) f 68 b at_).2 at_) := by
  rcases Decidable.em (b = 92) with rfl | hb92
  · have e : rPlain ((68, p) :: r) f 68 92 at_ = (((88, at_) :: (68, p) :: r), f) := by simp [rPlain, rProgram]
    rw [e]
    exact qu_yes B b0 r p 5 68 92 88 f at_ w h hl (by decide)
  have n92 : b.toNat ≠ 92 := nn hb92
  rcases Decidable.em (b = 36) with rfl | hb36
  · have e : rPlain ((68, p) :: r) f 68 36 at_ = (((76, at_) :: (68, p) :: r), f) := by simp [rPlain, rProgram]
    rw [e]
    exact qu_yes B b0 r p 5 68 36 76 f at_ w h hl (by decide)
  have n36 : b.toNat ≠ 36 := nn hb36
  rcases Decidable.em (b = 96) with rfl | hb96
  · have e : rPlain ((68, p) :: r) f 68 96 at_ = (((66, at_) :: (68, p) :: r), f) := by simp [rPlain, rProgram]
    rw [e]
    exact qu_yes B b0 r p 5 68 96 66 f at_ w h hl (by decide)
  have n96 : b.toNat ≠ 96 := nn hb96
  rcases Decidable.em (b = 34) with rfl | hb34
  · have e : rPlain ((68, p) :: r) f 68 34 at_ = (r, f) := by simp [rPlain, rProgram]
    rw [e]
    exact qu_34_68 B b0 r p f at_ w h hl ht
  have n34 : b.toNat ≠ 34 := nn hb34
  have e : rPlain ((68, p) :: r) f 68 b at_ = (((68, p) :: r), f) := by simp [rPlain, rProgram, n92, n36, n96, n34]
  rw [e]
  exact qu_no_68 B b0 r p b f at_ w h hl (bf b 92 hb92) (bf b 36 hb36) (bf b 96 hb96) (bf b 34 hb34)
theorem quoted_73 (B b0 : Nat) (r : Stk) (p : Int) (b : UInt8) (f : Bool) (at_ : Int) (w : World) (h : Mach w B b0 ((73, p) :: r) f at_) (hl : r.length ≤ 99990) (ht : r ≠ []) :
    Calls Tryd.prog 88 #[.pointer (some ⟨b0, 0, none⟩), .int .i64 8, .int .u8 (b.toNat : Int)] w (Mo w B b0 (.tuple #[]) (rPlain ((73, p) :: r) f 73 b at_).1 (rPlain ((73, p) :: r) f 73 b at_).2 at_) := by
  rcases Decidable.em (b = 92) with rfl | hb92
  · have e : rPlain ((73, p) :: r) f 73 92 at_ = (((88, at_) :: (73, p) :: r), f) := by simp [rPlain, rProgram]
    rw [e]
    exact qu_yes B b0 r p 8 73 92 88 f at_ w h hl (by decide)
  have n92 : b.toNat ≠ 92 := nn hb92
  rcases Decidable.em (b = 36) with rfl | hb36
  · have e : rPlain ((73, p) :: r) f 73 36 at_ = (((76, at_) :: (73, p) :: r), f) := by simp [rPlain, rProgram]
    rw [e]
    exact qu_yes B b0 r p 8 73 36 76 f at_ w h hl (by decide)
  have n36 : b.toNat ≠ 36 := nn hb36
  rcases Decidable.em (b = 96) with rfl | hb96
  · have e : rPlain ((73, p) :: r) f 73 96 at_ = (((66, at_) :: (73, p) :: r), f) := by simp [rPlain, rProgram]
    rw [e]
    exact qu_yes B b0 r p 8 73 96 66 f at_ w h hl (by decide)
  have n96 : b.toNat ≠ 96 := nn hb96
  rcases Decidable.em (b = 34) with rfl | hb34
  · have e : rPlain ((73, p) :: r) f 73 34 at_ = (((68, at_) :: (73, p) :: r), f) := by simp [rPlain, rProgram]
    rw [e]
    exact qu_34_x B b0 r p 8 73 f at_ w h hl rfl
  have n34 : b.toNat ≠ 34 := nn hb34
  rcases Decidable.em (b = 125) with rfl | hb125
  · have e : rPlain ((73, p) :: r) f 73 125 at_ = (r, f) := by simp [rPlain, rProgram]
    rw [e]
    exact qu_125_x B b0 r p 8 73 f at_ w h hl rfl rfl ht
  have n125 : b.toNat ≠ 125 := nn hb125
  have e : rPlain ((73, p) :: r) f 73 b at_ = (((73, p) :: r), f) := by simp [rPlain, rProgram, n92, n36, n96, n34, n125]
  rw [e]
  exact qu_no_73 B b0 r p b f at_ w h hl (bf b 92 hb92) (bf b 36 hb36) (bf b 96 hb96) (bf b 34 hb34) (bf b 125 hb125)
theorem quoted_86 (B b0 : Nat) (r : Stk) (p : Int) (b : UInt8) (f : Bool) (at_ : Int) (w : World) (h : Mach w B b0 ((86, p) :: r) f at_) (hl : r.length ≤ 99990) (ht : r ≠ []) :
    Calls Tryd.prog 88 #[.pointer (some ⟨b0, 0, none⟩), .int .i64 7, .int .u8 (b.toNat : Int)] w (Mo w B b0 (.tuple #[]) (rPlain ((86, p) :: r) f 86 b at_).1 (rPlain ((86, p) :: r) f 86 b at_).2 at_) := by
  rcases Decidable.em (b = 92) with rfl | hb92
  · have e : rPlain ((86, p) :: r) f 86 92 at_ = (((88, at_) :: (86, p) :: r), f) := by simp [rPlain, rProgram]
    rw [e]
    exact qu_yes B b0 r p 7 86 92 88 f at_ w h hl (by decide)
  have n92 : b.toNat ≠ 92 := nn hb92
  rcases Decidable.em (b = 36) with rfl | hb36
  · have e : rPlain ((86, p) :: r) f 86 36 at_ = (((76, at_) :: (86, p) :: r), f) := by simp [rPlain, rProgram]
    rw [e]
    exact qu_yes B b0 r p 7 86 36 76 f at_ w h hl (by decide)
  have n36 : b.toNat ≠ 36 := nn hb36
  rcases Decidable.em (b = 96) with rfl | hb96
  · have e : rPlain ((86, p) :: r) f 86 96 at_ = (((66, at_) :: (86, p) :: r), f) := by simp [rPlain, rProgram]
    rw [e]
    exact qu_yes B b0 r p 7 86 96 66 f at_ w h hl (by decide)
  have n96 : b.toNat ≠ 96 := nn hb96
  rcases Decidable.em (b = 34) with rfl | hb34
  · have e : rPlain ((86, p) :: r) f 86 34 at_ = (((68, at_) :: (86, p) :: r), f) := by simp [rPlain, rProgram]
    rw [e]
    exact qu_34_x B b0 r p 7 86 f at_ w h hl rfl
  have n34 : b.toNat ≠ 34 := nn hb34
  rcases Decidable.em (b = 125) with rfl | hb125
  · have e : rPlain ((86, p) :: r) f 86 125 at_ = (r, f) := by simp [rPlain, rProgram]
    rw [e]
    exact qu_125_x B b0 r p 7 86 f at_ w h hl rfl rfl ht
  have n125 : b.toNat ≠ 125 := nn hb125
  rcases Decidable.em (b = 39) with rfl | hb39
  · have e : rPlain ((86, p) :: r) f 86 39 at_ = (((83, at_) :: (86, p) :: r), f) := by simp [rPlain, rProgram]
    rw [e]
    exact qu_39_86 B b0 r p f at_ w h hl
  have n39 : b.toNat ≠ 39 := nn hb39
  have e : rPlain ((86, p) :: r) f 86 b at_ = (((86, p) :: r), f) := by simp [rPlain, rProgram, n92, n36, n96, n34, n125, n39]
  rw [e]
  exact qu_no_86 B b0 r p b f at_ w h hl (bf b 92 hb92) (bf b 36 hb36) (bf b 96 hb96) (bf b 34 hb34) (bf b 125 hb125) (bf b 39 hb39)
theorem program_84 (B b0 : Nat) (r : Stk) (p : Int) (b : UInt8) (f : Bool) (at_ : Int) (w : World) (h : Mach w B b0 ((84, p) :: r) f at_) (hl : r.length ≤ 99990)  :
    Calls Tryd.prog 85 #[.pointer (some ⟨b0, 0, none⟩), .int .i64 0, .int .u8 (b.toNat : Int)] w (Mo w B b0 (.tuple #[]) (rPlain ((84, p) :: r) f 84 b at_).1 (rPlain ((84, p) :: r) f 84 b at_).2 at_) := by
  rcases Decidable.em (b = 92) with rfl | hb92
  · have e : rPlain ((84, p) :: r) f 84 92 at_ = (((88, at_) :: (84, p) :: r), f) := by simp [rPlain, rProgram]
    rw [e]
    exact pr_92 B b0 r p 0 84 f at_ w h hl
  have n92 : b.toNat ≠ 92 := nn hb92
  rcases Decidable.em (b = 39) with rfl | hb39
  · have e : rPlain ((84, p) :: r) f 84 39 at_ = (((83, at_) :: (84, p) :: r), false) := by simp [rPlain, rProgram]
    rw [e]
    exact pr_39 B b0 r p 0 84 f at_ w h hl
  have n39 : b.toNat ≠ 39 := nn hb39
  rcases Decidable.em (b = 34) with rfl | hb34
  · have e : rPlain ((84, p) :: r) f 84 34 at_ = (((68, at_) :: (84, p) :: r), false) := by simp [rPlain, rProgram]
    rw [e]
    exact pr_34 B b0 r p 0 84 f at_ w h hl
  have n34 : b.toNat ≠ 34 := nn hb34
  rcases Decidable.em (b = 96) with rfl | hb96
  · have e : rPlain ((84, p) :: r) f 84 96 at_ = (((66, at_) :: (84, p) :: r), false) := by simp [rPlain, rProgram]
    rw [e]
    exact pr_96 B b0 r p 0 84 f at_ w h hl
  have n96 : b.toNat ≠ 96 := nn hb96
  rcases Decidable.em (b = 36) with rfl | hb36
  · have e : rPlain ((84, p) :: r) f 84 36 at_ = (((76, at_) :: (84, p) :: r), false) := by simp [rPlain, rProgram]
    rw [e]
    exact pr_36 B b0 r p 0 84 f at_ w h hl
  have n36 : b.toNat ≠ 36 := nn hb36
  rcases Decidable.em (b = 40) with rfl | hb40
  · have e : rPlain ((84, p) :: r) f 84 40 at_ = (((84, p) :: r), true) := by simp [rPlain, rProgram]
    rw [e]
    exact pr_40t B b0 r p 84 f at_ w h hl
  have n40 : b.toNat ≠ 40 := nn hb40
  rcases Decidable.em (b = 41) with rfl | hb41
  · have e : rPlain ((84, p) :: r) f 84 41 at_ = (((84, p) :: r), true) := by simp [rPlain, rProgram]
    rw [e]
    exact pr_41t B b0 r p 84 f at_ w h hl
  have n41 : b.toNat ≠ 41 := nn hb41
  rcases Decidable.em (b = 35) with rfl | hb35
  · cases f
    · have e : rPlain ((84, p) :: r) false 84 35 at_ = (((84, p) :: r), false) := by simp [rPlain, rProgram, endsB, clsOf]
      rw [e]
      exact pr_35f B b0 r p 0 84 false at_ w h hl
    · have e : rPlain ((84, p) :: r) true 84 35 at_ = (((35, at_) :: (84, p) :: r), true) := by simp [rPlain, rProgram]
      rw [e]
      exact pr_35t B b0 r p 0 84 true at_ w h hl
  have n35 : b.toNat ≠ 35 := nn hb35
  have e : rPlain ((84, p) :: r) f 84 b at_ = (((84, p) :: r), endsB b) := by simp [rPlain, rProgram, n92, n39, n34, n96, n36, n40, n41, n35]
  rw [e]
  exact pr_no B b0 r p 0 84 b f at_ w h hl (bf b 92 hb92) (bf b 39 hb39) (bf b 34 hb34) (bf b 96 hb96) (bf b 36 hb36) (bf b 35 hb35) (bf b 40 hb40) (bf b 41 hb41)
theorem program_67 (B b0 : Nat) (r : Stk) (p : Int) (b : UInt8) (f : Bool) (at_ : Int) (w : World) (h : Mach w B b0 ((67, p) :: r) f at_) (hl : r.length ≤ 99990) (ht : r ≠ []) :
    Calls Tryd.prog 85 #[.pointer (some ⟨b0, 0, none⟩), .int .i64 1, .int .u8 (b.toNat : Int)] w (Mo w B b0 (.tuple #[]) (rPlain ((67, p) :: r) f 67 b at_).1 (rPlain ((67, p) :: r) f 67 b at_).2 at_) := by
  rcases Decidable.em (b = 92) with rfl | hb92
  · have e : rPlain ((67, p) :: r) f 67 92 at_ = (((88, at_) :: (67, p) :: r), f) := by simp [rPlain, rProgram]
    rw [e]
    exact pr_92 B b0 r p 1 67 f at_ w h hl
  have n92 : b.toNat ≠ 92 := nn hb92
  rcases Decidable.em (b = 39) with rfl | hb39
  · have e : rPlain ((67, p) :: r) f 67 39 at_ = (((83, at_) :: (67, p) :: r), false) := by simp [rPlain, rProgram]
    rw [e]
    exact pr_39 B b0 r p 1 67 f at_ w h hl
  have n39 : b.toNat ≠ 39 := nn hb39
  rcases Decidable.em (b = 34) with rfl | hb34
  · have e : rPlain ((67, p) :: r) f 67 34 at_ = (((68, at_) :: (67, p) :: r), false) := by simp [rPlain, rProgram]
    rw [e]
    exact pr_34 B b0 r p 1 67 f at_ w h hl
  have n34 : b.toNat ≠ 34 := nn hb34
  rcases Decidable.em (b = 96) with rfl | hb96
  · have e : rPlain ((67, p) :: r) f 67 96 at_ = (((66, at_) :: (67, p) :: r), false) := by simp [rPlain, rProgram]
    rw [e]
    exact pr_96 B b0 r p 1 67 f at_ w h hl
  have n96 : b.toNat ≠ 96 := nn hb96
  rcases Decidable.em (b = 36) with rfl | hb36
  · have e : rPlain ((67, p) :: r) f 67 36 at_ = (((76, at_) :: (67, p) :: r), false) := by simp [rPlain, rProgram]
    rw [e]
    exact pr_36 B b0 r p 1 67 f at_ w h hl
  have n36 : b.toNat ≠ 36 := nn hb36
  rcases Decidable.em (b = 40) with rfl | hb40
  · have e : rPlain ((67, p) :: r) f 67 40 at_ = (((80, at_) :: (67, p) :: r), true) := by simp [rPlain, rProgram]
    rw [e]
    exact pr_40_1 B b0 r p 67 f at_ w h hl
  have n40 : b.toNat ≠ 40 := nn hb40
  rcases Decidable.em (b = 41) with rfl | hb41
  · have e : rPlain ((67, p) :: r) f 67 41 at_ = (r, false) := by simp [rPlain, rProgram]
    rw [e]
    exact pr_41_1 B b0 r p 67 f at_ w h hl ht
  have n41 : b.toNat ≠ 41 := nn hb41
  rcases Decidable.em (b = 35) with rfl | hb35
  · cases f
    · have e : rPlain ((67, p) :: r) false 67 35 at_ = (((67, p) :: r), false) := by simp [rPlain, rProgram, endsB, clsOf]
      rw [e]
      exact pr_35f B b0 r p 1 67 false at_ w h hl
    · have e : rPlain ((67, p) :: r) true 67 35 at_ = (((35, at_) :: (67, p) :: r), true) := by simp [rPlain, rProgram]
      rw [e]
      exact pr_35t B b0 r p 1 67 true at_ w h hl
  have n35 : b.toNat ≠ 35 := nn hb35
  have e : rPlain ((67, p) :: r) f 67 b at_ = (((67, p) :: r), endsB b) := by simp [rPlain, rProgram, n92, n39, n34, n96, n36, n40, n41, n35]
  rw [e]
  exact pr_no B b0 r p 1 67 b f at_ w h hl (bf b 92 hb92) (bf b 39 hb39) (bf b 34 hb34) (bf b 96 hb96) (bf b 36 hb36) (bf b 35 hb35) (bf b 40 hb40) (bf b 41 hb41)
theorem program_80 (B b0 : Nat) (r : Stk) (p : Int) (b : UInt8) (f : Bool) (at_ : Int) (w : World) (h : Mach w B b0 ((80, p) :: r) f at_) (hl : r.length ≤ 99990) (ht : r ≠ []) :
    Calls Tryd.prog 85 #[.pointer (some ⟨b0, 0, none⟩), .int .i64 2, .int .u8 (b.toNat : Int)] w (Mo w B b0 (.tuple #[]) (rPlain ((80, p) :: r) f 80 b at_).1 (rPlain ((80, p) :: r) f 80 b at_).2 at_) := by
  rcases Decidable.em (b = 92) with rfl | hb92
  · have e : rPlain ((80, p) :: r) f 80 92 at_ = (((88, at_) :: (80, p) :: r), f) := by simp [rPlain, rProgram]
    rw [e]
    exact pr_92 B b0 r p 2 80 f at_ w h hl
  have n92 : b.toNat ≠ 92 := nn hb92
  rcases Decidable.em (b = 39) with rfl | hb39
  · have e : rPlain ((80, p) :: r) f 80 39 at_ = (((83, at_) :: (80, p) :: r), false) := by simp [rPlain, rProgram]
    rw [e]
    exact pr_39 B b0 r p 2 80 f at_ w h hl
  have n39 : b.toNat ≠ 39 := nn hb39
  rcases Decidable.em (b = 34) with rfl | hb34
  · have e : rPlain ((80, p) :: r) f 80 34 at_ = (((68, at_) :: (80, p) :: r), false) := by simp [rPlain, rProgram]
    rw [e]
    exact pr_34 B b0 r p 2 80 f at_ w h hl
  have n34 : b.toNat ≠ 34 := nn hb34
  rcases Decidable.em (b = 96) with rfl | hb96
  · have e : rPlain ((80, p) :: r) f 80 96 at_ = (((66, at_) :: (80, p) :: r), false) := by simp [rPlain, rProgram]
    rw [e]
    exact pr_96 B b0 r p 2 80 f at_ w h hl
  have n96 : b.toNat ≠ 96 := nn hb96
  rcases Decidable.em (b = 36) with rfl | hb36
  · have e : rPlain ((80, p) :: r) f 80 36 at_ = (((76, at_) :: (80, p) :: r), false) := by simp [rPlain, rProgram]
    rw [e]
    exact pr_36 B b0 r p 2 80 f at_ w h hl
  have n36 : b.toNat ≠ 36 := nn hb36
  rcases Decidable.em (b = 40) with rfl | hb40
  · have e : rPlain ((80, p) :: r) f 80 40 at_ = (((80, at_) :: (80, p) :: r), true) := by simp [rPlain, rProgram]
    rw [e]
    exact pr_40_2 B b0 r p 80 f at_ w h hl
  have n40 : b.toNat ≠ 40 := nn hb40
  rcases Decidable.em (b = 41) with rfl | hb41
  · have e : rPlain ((80, p) :: r) f 80 41 at_ = (r, true) := by simp [rPlain, rProgram]
    rw [e]
    exact pr_41_2 B b0 r p 80 f at_ w h hl ht
  have n41 : b.toNat ≠ 41 := nn hb41
  rcases Decidable.em (b = 35) with rfl | hb35
  · cases f
    · have e : rPlain ((80, p) :: r) false 80 35 at_ = (((80, p) :: r), false) := by simp [rPlain, rProgram, endsB, clsOf]
      rw [e]
      exact pr_35f B b0 r p 2 80 false at_ w h hl
    · have e : rPlain ((80, p) :: r) true 80 35 at_ = (((35, at_) :: (80, p) :: r), true) := by simp [rPlain, rProgram]
      rw [e]
      exact pr_35t B b0 r p 2 80 true at_ w h hl
  have n35 : b.toNat ≠ 35 := nn hb35
  have e : rPlain ((80, p) :: r) f 80 b at_ = (((80, p) :: r), endsB b) := by simp [rPlain, rProgram, n92, n39, n34, n96, n36, n40, n41, n35]
  rw [e]
  exact pr_no B b0 r p 2 80 b f at_ w h hl (bf b 92 hb92) (bf b 39 hb39) (bf b 34 hb34) (bf b 96 hb96) (bf b 36 hb36) (bf b 35 hb35) (bf b 40 hb40) (bf b 41 hb41)
end Go.Proofs.YtihmjejcikpibaaDoor
/- The program's machine: a byte comes to one of the plain modes (modes.plain): the stack is what rPlain says. -/
namespace Go.Proofs.YtihmjejcikpibaaDoor
open Go.RowKit
set_option linter.unusedVariables false
set_option linter.unusedSimpArgs false
set_option maxRecDepth 100000
set_option maxHeartbeats 1000000 in
theorem pn_84 (B b : Nat) (r : Stk) (p : Int) (c : UInt8) (f : Bool) (at_ : Int) (w : World) (h : Mach w B b ((84, p) :: r) f at_) (hl : r.length ≤ 99990)  :
    Calls Tryd.prog 67 #[.pointer (some ⟨b, 0, none⟩), .int .i64 0, .int .u8 ((c : UInt8).toNat : Int)] w (Mo w B b (.tuple #[]) (rPlain ((84, p) :: r) f 84 c at_).1 (rPlain ((84, p) :: r) f 84 c at_).2 at_) := by
  obtain ⟨x0, x1, x2, x3, x4⟩ := h.cells
  have HM := Lib.hid h
  clear h
  go_enter Tryd.func67, Tryd.ntmps67
  go_wp2_with (first
    | (go_at_call 85
       refine (program_84 B b r p _ _ _ _ HM.out hl).mono ?_
       rintro e w1 ⟨rfl, hm1, hb1⟩
       obtain ⟨x0, x1, x2, x3, x4⟩ := hm1.cells
       have q1 : BM B w w1 := hb1
       have HM1 := Lib.hid hm1
       clear hm1))
  all_goals go_returns
  all_goals first
    | exact mo_mk HM1.out q1 rfl rfl
    | exact mo_mk (HM1.out.setFresh _) (BM.setCell q1 HM1.out _) rfl rfl

set_option maxHeartbeats 1000000 in
theorem pn_67 (B b : Nat) (r : Stk) (p : Int) (c : UInt8) (f : Bool) (at_ : Int) (w : World) (h : Mach w B b ((67, p) :: r) f at_) (hl : r.length ≤ 99990) (ht : r ≠ []) :
    Calls Tryd.prog 67 #[.pointer (some ⟨b, 0, none⟩), .int .i64 1, .int .u8 ((c : UInt8).toNat : Int)] w (Mo w B b (.tuple #[]) (rPlain ((67, p) :: r) f 67 c at_).1 (rPlain ((67, p) :: r) f 67 c at_).2 at_) := by
  obtain ⟨x0, x1, x2, x3, x4⟩ := h.cells
  have HM := Lib.hid h
  clear h
  go_enter Tryd.func67, Tryd.ntmps67
  go_wp2_with (first
    | (go_at_call 85
       refine (program_67 B b r p _ _ _ _ HM.out hl ht).mono ?_
       rintro e w1 ⟨rfl, hm1, hb1⟩
       obtain ⟨x0, x1, x2, x3, x4⟩ := hm1.cells
       have q1 : BM B w w1 := hb1
       have HM1 := Lib.hid hm1
       clear hm1))
  all_goals go_returns
  all_goals first
    | exact mo_mk HM1.out q1 rfl rfl
    | exact mo_mk (HM1.out.setFresh _) (BM.setCell q1 HM1.out _) rfl rfl

set_option maxHeartbeats 1000000 in
theorem pn_80 (B b : Nat) (r : Stk) (p : Int) (c : UInt8) (f : Bool) (at_ : Int) (w : World) (h : Mach w B b ((80, p) :: r) f at_) (hl : r.length ≤ 99990) (ht : r ≠ []) :
    Calls Tryd.prog 67 #[.pointer (some ⟨b, 0, none⟩), .int .i64 2, .int .u8 ((c : UInt8).toNat : Int)] w (Mo w B b (.tuple #[]) (rPlain ((80, p) :: r) f 80 c at_).1 (rPlain ((80, p) :: r) f 80 c at_).2 at_) := by
  obtain ⟨x0, x1, x2, x3, x4⟩ := h.cells
  have HM := Lib.hid h
  clear h
  go_enter Tryd.func67, Tryd.ntmps67
  go_wp2_with (first
    | (go_at_call 85
       refine (program_80 B b r p _ _ _ _ HM.out hl ht).mono ?_
       rintro e w1 ⟨rfl, hm1, hb1⟩
       obtain ⟨x0, x1, x2, x3, x4⟩ := hm1.cells
       have q1 : BM B w w1 := hb1
       have HM1 := Lib.hid hm1
       clear hm1))
  all_goals go_returns
  all_goals first
    | exact mo_mk HM1.out q1 rfl rfl
    | exact mo_mk (HM1.out.setFresh _) (BM.setCell q1 HM1.out _) rfl rfl

set_option maxHeartbeats 1000000 in
theorem pn_65 (B b : Nat) (r : Stk) (p : Int) (c : UInt8) (f : Bool) (at_ : Int) (w : World) (h : Mach w B b ((65, p) :: r) f at_) (hl : r.length ≤ 99990) (ht : r ≠ []) :
    Calls Tryd.prog 67 #[.pointer (some ⟨b, 0, none⟩), .int .i64 9, .int .u8 ((c : UInt8).toNat : Int)] w (Mo w B b (.tuple #[]) (rPlain ((65, p) :: r) f 65 c at_).1 (rPlain ((65, p) :: r) f 65 c at_).2 at_) := by
  obtain ⟨x0, x1, x2, x3, x4⟩ := h.cells
  have HM := Lib.hid h
  clear h
  go_enter Tryd.func67, Tryd.ntmps67
  go_wp2_with (first
    | (go_at_call 87
       refine (arith_65 B b r p _ _ _ _ HM.out hl ht).mono ?_
       rintro e w1 ⟨rfl, hm1, hb1⟩
       obtain ⟨x0, x1, x2, x3, x4⟩ := hm1.cells
       have q1 : BM B w w1 := hb1
       have HM1 := Lib.hid hm1
       clear hm1))
  all_goals go_returns
  all_goals first
    | exact mo_mk HM1.out q1 rfl rfl
    | exact mo_mk (HM1.out.setFresh _) (BM.setCell q1 HM1.out _) rfl rfl

set_option maxHeartbeats 1000000 in
theorem pn_82 (B b : Nat) (r : Stk) (p : Int) (c : UInt8) (f : Bool) (at_ : Int) (w : World) (h : Mach w B b ((82, p) :: r) f at_) (hl : r.length ≤ 99990) (ht : r ≠ []) :
    Calls Tryd.prog 67 #[.pointer (some ⟨b, 0, none⟩), .int .i64 10, .int .u8 ((c : UInt8).toNat : Int)] w (Mo w B b (.tuple #[]) (rPlain ((82, p) :: r) f 82 c at_).1 (rPlain ((82, p) :: r) f 82 c at_).2 at_) := by
  obtain ⟨x0, x1, x2, x3, x4⟩ := h.cells
  have HM := Lib.hid h
  clear h
  go_enter Tryd.func67, Tryd.ntmps67
  go_wp2_with (first
    | (go_at_call 87
       refine (arith_82 B b r p _ _ _ _ HM.out hl ht).mono ?_
       rintro e w1 ⟨rfl, hm1, hb1⟩
       obtain ⟨x0, x1, x2, x3, x4⟩ := hm1.cells
       have q1 : BM B w w1 := hb1
       have HM1 := Lib.hid hm1
       clear hm1))
  all_goals go_returns
  all_goals first
    | exact mo_mk HM1.out q1 rfl rfl
    | exact mo_mk (HM1.out.setFresh _) (BM.setCell q1 HM1.out _) rfl rfl

set_option maxHeartbeats 1000000 in
theorem pn_68 (B b : Nat) (r : Stk) (p : Int) (c : UInt8) (f : Bool) (at_ : Int) (w : World) (h : Mach w B b ((68, p) :: r) f at_) (hl : r.length ≤ 99990) (ht : r ≠ []) :
    Calls Tryd.prog 67 #[.pointer (some ⟨b, 0, none⟩), .int .i64 5, .int .u8 ((c : UInt8).toNat : Int)] w (Mo w B b (.tuple #[]) (rPlain ((68, p) :: r) f 68 c at_).1 (rPlain ((68, p) :: r) f 68 c at_).2 at_) := by
  obtain ⟨x0, x1, x2, x3, x4⟩ := h.cells
  have HM := Lib.hid h
  clear h
  go_enter Tryd.func67, Tryd.ntmps67
  go_wp2_with (first
    | (go_at_call 88
       refine (quoted_68 B b r p _ _ _ _ HM.out hl ht).mono ?_
       rintro e w1 ⟨rfl, hm1, hb1⟩
       obtain ⟨x0, x1, x2, x3, x4⟩ := hm1.cells
       have q1 : BM B w w1 := hb1
       have HM1 := Lib.hid hm1
       clear hm1))
  all_goals go_returns
  all_goals first
    | exact mo_mk HM1.out q1 rfl rfl
    | exact mo_mk (HM1.out.setFresh _) (BM.setCell q1 HM1.out _) rfl rfl

set_option maxHeartbeats 1000000 in
theorem pn_73 (B b : Nat) (r : Stk) (p : Int) (c : UInt8) (f : Bool) (at_ : Int) (w : World) (h : Mach w B b ((73, p) :: r) f at_) (hl : r.length ≤ 99990) (ht : r ≠ []) :
    Calls Tryd.prog 67 #[.pointer (some ⟨b, 0, none⟩), .int .i64 8, .int .u8 ((c : UInt8).toNat : Int)] w (Mo w B b (.tuple #[]) (rPlain ((73, p) :: r) f 73 c at_).1 (rPlain ((73, p) :: r) f 73 c at_).2 at_) := by
  obtain ⟨x0, x1, x2, x3, x4⟩ := h.cells
  have HM := Lib.hid h
  clear h
  go_enter Tryd.func67, Tryd.ntmps67
  go_wp2_with (first
    | (go_at_call 88
       refine (quoted_73 B b r p _ _ _ _ HM.out hl ht).mono ?_
       rintro e w1 ⟨rfl, hm1, hb1⟩
       obtain ⟨x0, x1, x2, x3, x4⟩ := hm1.cells
       have q1 : BM B w w1 := hb1
       have HM1 := Lib.hid hm1
       clear hm1))
  all_goals go_returns
  all_goals first
    | exact mo_mk HM1.out q1 rfl rfl
    | exact mo_mk (HM1.out.setFresh _) (BM.setCell q1 HM1.out _) rfl rfl

set_option maxHeartbeats 1000000 in
theorem pn_86 (B b : Nat) (r : Stk) (p : Int) (c : UInt8) (f : Bool) (at_ : Int) (w : World) (h : Mach w B b ((86, p) :: r) f at_) (hl : r.length ≤ 99990) (ht : r ≠ []) :
    Calls Tryd.prog 67 #[.pointer (some ⟨b, 0, none⟩), .int .i64 7, .int .u8 ((c : UInt8).toNat : Int)] w (Mo w B b (.tuple #[]) (rPlain ((86, p) :: r) f 86 c at_).1 (rPlain ((86, p) :: r) f 86 c at_).2 at_) := by
  obtain ⟨x0, x1, x2, x3, x4⟩ := h.cells
  have HM := Lib.hid h
  clear h
  go_enter Tryd.func67, Tryd.ntmps67
  go_wp2_with (first
    | (go_at_call 88
       refine (quoted_86 B b r p _ _ _ _ HM.out hl ht).mono ?_
       rintro e w1 ⟨rfl, hm1, hb1⟩
       obtain ⟨x0, x1, x2, x3, x4⟩ := hm1.cells
       have q1 : BM B w w1 := hb1
       have HM1 := Lib.hid hm1
       clear hm1))
  all_goals go_returns
  all_goals first
    | exact mo_mk HM1.out q1 rfl rfl
    | exact mo_mk (HM1.out.setFresh _) (BM.setCell q1 HM1.out _) rfl rfl

set_option maxHeartbeats 1000000 in
theorem pn_88_10t (B b : Nat) (r : Stk) (p : Int) (f : Bool) (at_ : Int) (w : World) (h : Mach w B b ((88, p) :: r) true at_) (hl : r.length ≤ 99990) (ht : r ≠ []) :
    Calls Tryd.prog 67 #[.pointer (some ⟨b, 0, none⟩), .int .i64 13, .int .u8 ((10 : UInt8).toNat : Int)] w (Mo w B b (.tuple #[]) r true at_) := by
  obtain ⟨x0, x1, x2, x3, x4⟩ := h.cells
  have HM := Lib.hid h
  clear h
  go_enter Tryd.func67, Tryd.ntmps67
  go_wp2_with (first
    | (go_at_call 66
       with_reducible refine (shut_m B b _ _ _ _ _ _ HM.out ht).mono ?_
       rintro e w1 ⟨rfl, hm1, hb1⟩
       obtain ⟨x0, x1, x2, x3, x4⟩ := hm1.cells
       have q1 : BM B w w1 := hb1
       have HM1 := Lib.hid hm1
       clear hm1))
  all_goals go_returns
  all_goals first
    | exact mo_mk HM1.out q1 rfl rfl
    | exact mo_mk (HM1.out.setFresh _) (BM.setCell q1 HM1.out _) rfl rfl

set_option maxHeartbeats 1000000 in
theorem pn_88_xt (B b : Nat) (r : Stk) (p : Int) (c : UInt8) (f : Bool) (at_ : Int) (w : World) (h : Mach w B b ((88, p) :: r) true at_) (hl : r.length ≤ 99990) (ht : r ≠ []) (hc10 : ((c.toNat : Int) == 10) = false)  :
    Calls Tryd.prog 67 #[.pointer (some ⟨b, 0, none⟩), .int .i64 13, .int .u8 ((c : UInt8).toNat : Int)] w (Mo w B b (.tuple #[]) r false at_) := by
  obtain ⟨x0, x1, x2, x3, x4⟩ := h.cells
  have HM := Lib.hid h
  clear h
  go_enter Tryd.func67, Tryd.ntmps67
  go_wp2_with (first
    | (go_at_call 66
       with_reducible refine (shut_m B b _ _ _ _ _ _ HM.out ht).mono ?_
       rintro e w1 ⟨rfl, hm1, hb1⟩
       obtain ⟨x0, x1, x2, x3, x4⟩ := hm1.cells
       have q1 : BM B w w1 := hb1
       have HM1 := Lib.hid hm1
       clear hm1))
  all_goals go_returns
  all_goals first
    | exact mo_mk HM1.out q1 rfl rfl
    | exact mo_mk (HM1.out.setFresh _) (BM.setCell q1 HM1.out _) rfl rfl

set_option maxHeartbeats 1000000 in
theorem pn_88_10f (B b : Nat) (r : Stk) (p : Int) (f : Bool) (at_ : Int) (w : World) (h : Mach w B b ((88, p) :: r) false at_) (hl : r.length ≤ 99990) (ht : r ≠ []) :
    Calls Tryd.prog 67 #[.pointer (some ⟨b, 0, none⟩), .int .i64 13, .int .u8 ((10 : UInt8).toNat : Int)] w (Mo w B b (.tuple #[]) r false at_) := by
  obtain ⟨x0, x1, x2, x3, x4⟩ := h.cells
  have HM := Lib.hid h
  clear h
  go_enter Tryd.func67, Tryd.ntmps67
  go_wp2_with (first
    | (go_at_call 66
       with_reducible refine (shut_m B b _ _ _ _ _ _ HM.out ht).mono ?_
       rintro e w1 ⟨rfl, hm1, hb1⟩
       obtain ⟨x0, x1, x2, x3, x4⟩ := hm1.cells
       have q1 : BM B w w1 := hb1
       have HM1 := Lib.hid hm1
       clear hm1))
  all_goals go_returns
  all_goals first
    | exact mo_mk HM1.out q1 rfl rfl
    | exact mo_mk (HM1.out.setFresh _) (BM.setCell q1 HM1.out _) rfl rfl

set_option maxHeartbeats 1000000 in
theorem pn_88_xf (B b : Nat) (r : Stk) (p : Int) (c : UInt8) (f : Bool) (at_ : Int) (w : World) (h : Mach w B b ((88, p) :: r) false at_) (hl : r.length ≤ 99990) (ht : r ≠ []) (hc10 : ((c.toNat : Int) == 10) = false)  :
    Calls Tryd.prog 67 #[.pointer (some ⟨b, 0, none⟩), .int .i64 13, .int .u8 ((c : UInt8).toNat : Int)] w (Mo w B b (.tuple #[]) r false at_) := by
  obtain ⟨x0, x1, x2, x3, x4⟩ := h.cells
  have HM := Lib.hid h
  clear h
  go_enter Tryd.func67, Tryd.ntmps67
  go_wp2_with (first
    | (go_at_call 66
       with_reducible refine (shut_m B b _ _ _ _ _ _ HM.out ht).mono ?_
       rintro e w1 ⟨rfl, hm1, hb1⟩
       obtain ⟨x0, x1, x2, x3, x4⟩ := hm1.cells
       have q1 : BM B w w1 := hb1
       have HM1 := Lib.hid hm1
       clear hm1))
  all_goals go_returns
  all_goals first
    | exact mo_mk HM1.out q1 rfl rfl
    | exact mo_mk (HM1.out.setFresh _) (BM.setCell q1 HM1.out _) rfl rfl

set_option maxHeartbeats 1000000 in
theorem pn_83_39 (B b : Nat) (r : Stk) (p : Int) (f : Bool) (at_ : Int) (w : World) (h : Mach w B b ((83, p) :: r) f at_) (hl : r.length ≤ 99990) (ht : r ≠ []) :
    Calls Tryd.prog 67 #[.pointer (some ⟨b, 0, none⟩), .int .i64 4, .int .u8 ((39 : UInt8).toNat : Int)] w (Mo w B b (.tuple #[]) r f at_) := by
  obtain ⟨x0, x1, x2, x3, x4⟩ := h.cells
  have HM := Lib.hid h
  clear h
  go_enter Tryd.func67, Tryd.ntmps67
  go_wp2_with (first
    | (go_at_call 66
       with_reducible refine (shut_m B b _ _ _ _ _ _ HM.out ht).mono ?_
       rintro e w1 ⟨rfl, hm1, hb1⟩
       obtain ⟨x0, x1, x2, x3, x4⟩ := hm1.cells
       have q1 : BM B w w1 := hb1
       have HM1 := Lib.hid hm1
       clear hm1))
  all_goals go_returns
  all_goals first
    | exact mo_mk HM1.out q1 rfl rfl
    | exact mo_mk (HM1.out.setFresh _) (BM.setCell q1 HM1.out _) rfl rfl

set_option maxHeartbeats 1000000 in
theorem pn_83_x (B b : Nat) (r : Stk) (p : Int) (c : UInt8) (f : Bool) (at_ : Int) (w : World) (h : Mach w B b ((83, p) :: r) f at_) (hl : r.length ≤ 99990) (hc39 : ((c.toNat : Int) == 39) = false)  :
    Calls Tryd.prog 67 #[.pointer (some ⟨b, 0, none⟩), .int .i64 4, .int .u8 ((c : UInt8).toNat : Int)] w (Mo w B b (.tuple #[]) ((83, p) :: r) f at_) := by
  obtain ⟨x0, x1, x2, x3, x4⟩ := h.cells
  have HM := Lib.hid h
  clear h
  go_enter Tryd.func67, Tryd.ntmps67
  go_wp2_with fail
  all_goals go_returns
  all_goals first
    | exact mo_mk HM.out (BM.refl _ _) rfl rfl
    | exact mo_mk (HM.out.setFresh _) (BM.setCell (BM.refl _ _) HM.out _) rfl rfl

set_option maxHeartbeats 1000000 in
theorem pn_35_10 (B b : Nat) (r : Stk) (p : Int) (f : Bool) (at_ : Int) (w : World) (h : Mach w B b ((35, p) :: r) f at_) (hl : r.length ≤ 99990) (ht : r ≠ []) :
    Calls Tryd.prog 67 #[.pointer (some ⟨b, 0, none⟩), .int .i64 14, .int .u8 ((10 : UInt8).toNat : Int)] w (Mo w B b (.tuple #[]) r true at_) := by
  obtain ⟨x0, x1, x2, x3, x4⟩ := h.cells
  have HM := Lib.hid h
  clear h
  go_enter Tryd.func67, Tryd.ntmps67
  go_wp2_with (first
    | (go_at_call 66
       with_reducible refine (shut_m B b _ _ _ _ _ _ HM.out ht).mono ?_
       rintro e w1 ⟨rfl, hm1, hb1⟩
       obtain ⟨x0, x1, x2, x3, x4⟩ := hm1.cells
       have q1 : BM B w w1 := hb1
       have HM1 := Lib.hid hm1
       clear hm1))
  all_goals go_returns
  all_goals first
    | exact mo_mk HM1.out q1 rfl rfl
    | exact mo_mk (HM1.out.setFresh _) (BM.setCell q1 HM1.out _) rfl rfl

set_option maxHeartbeats 1000000 in
theorem pn_35_x (B b : Nat) (r : Stk) (p : Int) (c : UInt8) (f : Bool) (at_ : Int) (w : World) (h : Mach w B b ((35, p) :: r) f at_) (hl : r.length ≤ 99990) (hc10 : ((c.toNat : Int) == 10) = false)  :
    Calls Tryd.prog 67 #[.pointer (some ⟨b, 0, none⟩), .int .i64 14, .int .u8 ((c : UInt8).toNat : Int)] w (Mo w B b (.tuple #[]) ((35, p) :: r) f at_) := by
  obtain ⟨x0, x1, x2, x3, x4⟩ := h.cells
  have HM := Lib.hid h
  clear h
  go_enter Tryd.func67, Tryd.ntmps67
  go_wp2_with fail
  all_goals go_returns
  all_goals first
    | exact mo_mk HM.out (BM.refl _ _) rfl rfl
    | exact mo_mk (HM.out.setFresh _) (BM.setCell (BM.refl _ _) HM.out _) rfl rfl

set_option maxHeartbeats 1000000 in
theorem pn_66_96 (B b : Nat) (r : Stk) (p : Int) (f : Bool) (at_ : Int) (w : World) (h : Mach w B b ((66, p) :: r) f at_) (hl : r.length ≤ 99990) (ht : r ≠ []) :
    Calls Tryd.prog 67 #[.pointer (some ⟨b, 0, none⟩), .int .i64 6, .int .u8 ((96 : UInt8).toNat : Int)] w (Mo w B b (.tuple #[]) r f at_) := by
  obtain ⟨x0, x1, x2, x3, x4⟩ := h.cells
  have HM := Lib.hid h
  clear h
  go_enter Tryd.func67, Tryd.ntmps67
  go_wp2_with (first
    | (go_at_call 66
       with_reducible refine (shut_m B b _ _ _ _ _ _ HM.out ht).mono ?_
       rintro e w1 ⟨rfl, hm1, hb1⟩
       obtain ⟨x0, x1, x2, x3, x4⟩ := hm1.cells
       have q1 : BM B w w1 := hb1
       have HM1 := Lib.hid hm1
       clear hm1))
  all_goals go_returns
  all_goals first
    | exact mo_mk HM1.out q1 rfl rfl
    | exact mo_mk (HM1.out.setFresh _) (BM.setCell q1 HM1.out _) rfl rfl

set_option maxHeartbeats 1000000 in
theorem pn_66_92 (B b : Nat) (r : Stk) (p : Int) (f : Bool) (at_ : Int) (w : World) (h : Mach w B b ((66, p) :: r) f at_) (hl : r.length ≤ 99990)  :
    Calls Tryd.prog 67 #[.pointer (some ⟨b, 0, none⟩), .int .i64 6, .int .u8 ((92 : UInt8).toNat : Int)] w (Mo w B b (.tuple #[]) ((88, at_) :: (66, p) :: r) f at_) := by
  obtain ⟨x0, x1, x2, x3, x4⟩ := h.cells
  have HM := Lib.hid h
  clear h
  go_enter Tryd.func67, Tryd.ntmps67
  go_wp2_with (first
    | (go_at_call 86
       with_reducible refine (open_k B b _ _ _ 88 13 _ rfl HM.out (by simp) (by simp at *; omega)).mono ?_
       rintro e w1 ⟨rfl, hm1, hb1⟩
       obtain ⟨x0, x1, x2, x3, x4⟩ := hm1.cells
       have q1 : BM B w w1 := hb1
       have HM1 := Lib.hid hm1
       clear hm1))
  all_goals go_returns
  all_goals first
    | exact mo_mk HM1.out q1 rfl rfl
    | exact mo_mk (HM1.out.setFresh _) (BM.setCell q1 HM1.out _) rfl rfl

set_option maxHeartbeats 1000000 in
theorem pn_66_x (B b : Nat) (r : Stk) (p : Int) (c : UInt8) (f : Bool) (at_ : Int) (w : World) (h : Mach w B b ((66, p) :: r) f at_) (hl : r.length ≤ 99990) (hc96 : ((c.toNat : Int) == 96) = false) (hc92 : ((c.toNat : Int) == 92) = false)  :
    Calls Tryd.prog 67 #[.pointer (some ⟨b, 0, none⟩), .int .i64 6, .int .u8 ((c : UInt8).toNat : Int)] w (Mo w B b (.tuple #[]) ((66, p) :: r) f at_) := by
  obtain ⟨x0, x1, x2, x3, x4⟩ := h.cells
  have HM := Lib.hid h
  clear h
  go_enter Tryd.func67, Tryd.ntmps67
  go_wp2_with fail
  all_goals go_returns
  all_goals first
    | exact mo_mk HM.out (BM.refl _ _) rfl rfl
    | exact mo_mk (HM.out.setFresh _) (BM.setCell (BM.refl _ _) HM.out _) rfl rfl

theorem plain_m (B b0 : Nat) (r : Stk) (c : UInt8) (p m : Int) (b : UInt8) (f : Bool) (at_ : Int) (w : World) (hm : m = modeOf c) (h : Mach w B b0 ((c, p) :: r) f at_) (hl : r.length ≤ 99990) (ht : c ≠ 84 → r ≠ [])
    (hc : c = 84 ∨ c = 67 ∨ c = 80 ∨ c = 65 ∨ c = 82 ∨ c = 68 ∨ c = 73 ∨ c = 86 ∨ c = 88 ∨ c = 83 ∨ c = 35 ∨ c = 66) :
    Calls Tryd.prog 67 #[.pointer (some ⟨b0, 0, none⟩), .int .i64 m, .int .u8 (b.toNat : Int)] w (Mo w B b0 (.tuple #[]) (rPlain ((c, p) :: r) f c b at_).1 (rPlain ((c, p) :: r) f c b at_).2 at_) := by
  rcases hc with rfl | rfl | rfl | rfl | rfl | rfl | rfl | rfl | rfl | rfl | rfl | rfl
  · obtain rfl : m = 0 := hm
    exact pn_84 B b0 r p b f at_ w h hl
  · obtain rfl : m = 1 := hm
    exact pn_67 B b0 r p b f at_ w h hl (ht (by decide))
  · obtain rfl : m = 2 := hm
    exact pn_80 B b0 r p b f at_ w h hl (ht (by decide))
  · obtain rfl : m = 9 := hm
    exact pn_65 B b0 r p b f at_ w h hl (ht (by decide))
  · obtain rfl : m = 10 := hm
    exact pn_82 B b0 r p b f at_ w h hl (ht (by decide))
  · obtain rfl : m = 5 := hm
    exact pn_68 B b0 r p b f at_ w h hl (ht (by decide))
  · obtain rfl : m = 8 := hm
    exact pn_73 B b0 r p b f at_ w h hl (ht (by decide))
  · obtain rfl : m = 7 := hm
    exact pn_86 B b0 r p b f at_ w h hl (ht (by decide))
  · obtain rfl : m = 13 := hm
    have ht := ht (by decide)
    rcases Decidable.em (b = 10) with rfl | hb10
    · have e : rPlain ((88, p) :: r) f 88 10 at_ = (r, f) := by simp [rPlain]
      rw [e]
      cases f
      · exact pn_88_10f B b0 r p false at_ w h hl ht
      · exact pn_88_10t B b0 r p true at_ w h hl ht
    have n10 : b.toNat ≠ 10 := nn hb10
    have e : rPlain ((88, p) :: r) f 88 b at_ = (r, false) := by simp [rPlain, n10]
    rw [e]
    cases f
    · exact pn_88_xf B b0 r p b false at_ w h hl ht (bf b 10 hb10)
    · exact pn_88_xt B b0 r p b true at_ w h hl ht (bf b 10 hb10)
  · obtain rfl : m = 4 := hm
    have ht := ht (by decide)
    rcases Decidable.em (b = 39) with rfl | hb39
    · have e : rPlain ((83, p) :: r) f 83 39 at_ = (r, f) := by simp [rPlain]
      rw [e]
      exact pn_83_39 B b0 r p f at_ w h hl ht
    have n39 : b.toNat ≠ 39 := nn hb39
    have e : rPlain ((83, p) :: r) f 83 b at_ = (((83, p) :: r), f) := by simp [rPlain, n39]
    rw [e]
    exact pn_83_x B b0 r p b f at_ w h hl (bf b 39 hb39)
  · obtain rfl : m = 14 := hm
    have ht := ht (by decide)
    rcases Decidable.em (b = 10) with rfl | hb10
    · have e : rPlain ((35, p) :: r) f 35 10 at_ = (r, true) := by simp [rPlain]
      rw [e]
      exact pn_35_10 B b0 r p f at_ w h hl ht
    have n10 : b.toNat ≠ 10 := nn hb10
    have e : rPlain ((35, p) :: r) f 35 b at_ = (((35, p) :: r), f) := by simp [rPlain, n10]
    rw [e]
    exact pn_35_x B b0 r p b f at_ w h hl (bf b 10 hb10)
  · obtain rfl : m = 6 := hm
    have ht := ht (by decide)
    rcases Decidable.em (b = 96) with rfl | hb96
    · have e : rPlain ((66, p) :: r) f 66 96 at_ = (r, f) := by simp [rPlain]
      rw [e]
      exact pn_66_96 B b0 r p f at_ w h hl ht
    have n96 : b.toNat ≠ 96 := nn hb96
    rcases Decidable.em (b = 92) with rfl | hb92
    · have e : rPlain ((66, p) :: r) f 66 92 at_ = (((88, at_) :: (66, p) :: r), f) := by simp [rPlain]
      rw [e]
      exact pn_66_92 B b0 r p f at_ w h hl
    have n92 : b.toNat ≠ 92 := nn hb92
    have e : rPlain ((66, p) :: r) f 66 b at_ = (((66, p) :: r), f) := by simp [rPlain, n96, n92]
    rw [e]
    exact pn_66_x B b0 r p b f at_ w h hl (bf b 96 hb96) (bf b 92 hb92)
end Go.Proofs.YtihmjejcikpibaaDoor
/- The program's machine: a byte right behind a dollar (modes.dollar). -/
namespace Go.Proofs.YtihmjejcikpibaaDoor
open Go.RowKit
set_option linter.unusedVariables false
set_option linter.unusedSimpArgs false
set_option maxRecDepth 100000
theorem Mach.drewN {w : World} {B b : Nat} {st : Stk} {f : Bool} {at_ : Int} (h : Mach w B b st f at_) (n : Nat) : Mach (w.drewN n) B b st f at_ := h
theorem below_k (B b : Nat) (st : Stk) (f : Bool) (at_ p q : Int) (c d : UInt8) (m : Int) (w : World) (hm : m = modeOf d) (h : Mach w B b ((c, p) :: (d, q) :: st) f at_) :
    Calls Tryd.prog 84 #[.pointer (some ⟨b, 0, none⟩)] w fun e w' => e = .returned (.int .i64 m) ∧ ∃ n, w' = w.drewN n := by
  subst hm; exact below_m B b st f at_ p q c d w h
set_option maxHeartbeats 1000000 in
theorem do_40 (B b : Nat) (r : Stk) (p q : Int) (d : UInt8) (f : Bool) (at_ : Int) (w : World) (h : Mach w B b ((76, p) :: (d, q) :: r) f at_) (hl : r.length ≤ 99980)  :
    Calls Tryd.prog 64 #[.pointer (some ⟨b, 0, none⟩), .int .u8 ((40 : UInt8).toNat : Int)] w (Mo w B b (.bool true) ((79, p) :: (d, q) :: r) true at_) := by
  obtain ⟨x0, x1, x2, x3, x4⟩ := h.cells
  have HM := Lib.hid h
  clear h
  go_enter Tryd.func64, Tryd.ntmps64
  go_wp2_with (first
    | (go_at_call 65
       with_reducible refine (become_k B b _ _ _ _ _ 79 3 _ rfl HM.out).mono ?_
       rintro e w1 ⟨rfl, hm1, hb1⟩
       obtain ⟨x0, x1, x2, x3, x4⟩ := hm1.cells
       have q1 : BM B w w1 := hb1
       have HM1 := Lib.hid hm1
       clear hm1))
  all_goals go_returns
  all_goals first
    | exact mo_mk HM1.out q1 rfl rfl
    | exact mo_mk (HM1.out.setFresh _) (BM.setCell q1 HM1.out _) rfl rfl

set_option maxHeartbeats 1000000 in
theorem do_36 (B b : Nat) (r : Stk) (p q : Int) (d : UInt8) (f : Bool) (at_ : Int) (w : World) (h : Mach w B b ((76, p) :: (d, q) :: r) f at_) (hl : r.length ≤ 99980)  :
    Calls Tryd.prog 64 #[.pointer (some ⟨b, 0, none⟩), .int .u8 ((36 : UInt8).toNat : Int)] w (Mo w B b (.bool true) ((d, q) :: r) f at_) := by
  obtain ⟨x0, x1, x2, x3, x4⟩ := h.cells
  have HM := Lib.hid h
  clear h
  go_enter Tryd.func64, Tryd.ntmps64
  go_wp2_with (first
    | (go_at_call 66; refine (shut_m B b _ _ _ _ _ _ HM.out (by simp)).mono ?_
       rintro e w1 ⟨rfl, hm1, hb1⟩
       obtain ⟨x0, x1, x2, x3, x4⟩ := hm1.cells
       have q1 : BM B w w1 := hb1
       have HM1 := Lib.hid hm1
       clear hm1))
  all_goals go_returns
  all_goals first
    | exact mo_mk HM1.out q1 rfl rfl
    | exact mo_mk (HM1.out.setFresh _) (BM.setCell q1 HM1.out _) rfl rfl

set_option maxHeartbeats 1000000 in
theorem do_x (B b : Nat) (r : Stk) (p q : Int) (d : UInt8) (c : UInt8) (f : Bool) (at_ : Int) (w : World) (h : Mach w B b ((76, p) :: (d, q) :: r) f at_) (hl : r.length ≤ 99980) (hc40 : ((c.toNat : Int) == 40) = false) (hc123 : ((c.toNat : Int) == 123) = false) (hc36 : ((c.toNat : Int) == 36) = false)  :
    Calls Tryd.prog 64 #[.pointer (some ⟨b, 0, none⟩), .int .u8 ((c : UInt8).toNat : Int)] w (Mo w B b (.bool false) ((d, q) :: r) f at_) := by
  obtain ⟨x0, x1, x2, x3, x4⟩ := h.cells
  have HM := Lib.hid h
  clear h
  go_enter Tryd.func64, Tryd.ntmps64
  go_wp2_with (first
    | (go_at_call 66; refine (shut_m B b _ _ _ _ _ _ HM.out (by simp)).mono ?_
       rintro e w1 ⟨rfl, hm1, hb1⟩
       obtain ⟨x0, x1, x2, x3, x4⟩ := hm1.cells
       have q1 : BM B w w1 := hb1
       have HM1 := Lib.hid hm1
       clear hm1))
  all_goals go_returns
  all_goals first
    | exact mo_mk HM1.out q1 rfl rfl
    | exact mo_mk (HM1.out.setFresh _) (BM.setCell q1 HM1.out _) rfl rfl

set_option maxHeartbeats 1000000 in
theorem do_123_5 (B b : Nat) (r : Stk) (p q : Int) (d : UInt8) (m : Int) (f : Bool) (at_ : Int) (w : World) (h : Mach w B b ((76, p) :: (d, q) :: r) f at_) (hl : r.length ≤ 99980) (hmd : m = modeOf d) (hm5 : m = 5) :
    Calls Tryd.prog 64 #[.pointer (some ⟨b, 0, none⟩), .int .u8 ((123 : UInt8).toNat : Int)] w (Mo w B b (.bool true) ((73, p) :: (d, q) :: r) f at_) := by
  obtain ⟨x0, x1, x2, x3, x4⟩ := h.cells
  have HM := Lib.hid h
  clear h
  subst hm5
  have Hmd := Lib.hid hmd
  clear hmd
  go_enter Tryd.func64, Tryd.ntmps64
  go_wp2_with (first
    | (go_at_call 84; refine (below_k B b _ _ _ _ _ _ _ _ _ Hmd.out HM.out).mono ?_
       rintro e w0 ⟨rfl, nq, rfl⟩)
    | (go_at_call 65
       with_reducible refine (become_k B b _ _ _ _ _ 73 8 _ rfl (HM.out.drewN nq)).mono ?_
       rintro e w1 ⟨rfl, hm1, hb1⟩
       obtain ⟨x0, x1, x2, x3, x4⟩ := hm1.cells
       have q1 : BM B w w1 := (BM.drewN (BM.refl B w) nq).trans hb1
       have HM1 := Lib.hid hm1
       clear hm1))
  all_goals go_returns
  all_goals first
    | exact mo_mk HM1.out q1 rfl rfl
    | exact mo_mk (HM1.out.setFresh _) (BM.setCell q1 HM1.out _) rfl rfl

set_option maxHeartbeats 1000000 in
theorem do_123_8 (B b : Nat) (r : Stk) (p q : Int) (d : UInt8) (m : Int) (f : Bool) (at_ : Int) (w : World) (h : Mach w B b ((76, p) :: (d, q) :: r) f at_) (hl : r.length ≤ 99980) (hmd : m = modeOf d) (hm5 : m = 8) :
    Calls Tryd.prog 64 #[.pointer (some ⟨b, 0, none⟩), .int .u8 ((123 : UInt8).toNat : Int)] w (Mo w B b (.bool true) ((73, p) :: (d, q) :: r) f at_) := by
  obtain ⟨x0, x1, x2, x3, x4⟩ := h.cells
  have HM := Lib.hid h
  clear h
  subst hm5
  have Hmd := Lib.hid hmd
  clear hmd
  go_enter Tryd.func64, Tryd.ntmps64
  go_wp2_with (first
    | (go_at_call 84; refine (below_k B b _ _ _ _ _ _ _ _ _ Hmd.out HM.out).mono ?_
       rintro e w0 ⟨rfl, nq, rfl⟩)
    | (go_at_call 65
       with_reducible refine (become_k B b _ _ _ _ _ 73 8 _ rfl (HM.out.drewN nq)).mono ?_
       rintro e w1 ⟨rfl, hm1, hb1⟩
       obtain ⟨x0, x1, x2, x3, x4⟩ := hm1.cells
       have q1 : BM B w w1 := (BM.drewN (BM.refl B w) nq).trans hb1
       have HM1 := Lib.hid hm1
       clear hm1))
  all_goals go_returns
  all_goals first
    | exact mo_mk HM1.out q1 rfl rfl
    | exact mo_mk (HM1.out.setFresh _) (BM.setCell q1 HM1.out _) rfl rfl

set_option maxHeartbeats 1000000 in
theorem do_123_x (B b : Nat) (r : Stk) (p q : Int) (d : UInt8) (m : Int) (f : Bool) (at_ : Int) (w : World) (h : Mach w B b ((76, p) :: (d, q) :: r) f at_) (hl : r.length ≤ 99980) (hmd : m = modeOf d) (hm5 : (m == 5) = false) (hm8 : (m == 8) = false) :
    Calls Tryd.prog 64 #[.pointer (some ⟨b, 0, none⟩), .int .u8 ((123 : UInt8).toNat : Int)] w (Mo w B b (.bool true) ((86, p) :: (d, q) :: r) f at_) := by
  obtain ⟨x0, x1, x2, x3, x4⟩ := h.cells
  have HM := Lib.hid h
  clear h
  have Hmd := Lib.hid hmd
  clear hmd
  go_enter Tryd.func64, Tryd.ntmps64
  go_wp2_with (first
    | (go_at_call 84; refine (below_k B b _ _ _ _ _ _ _ _ _ Hmd.out HM.out).mono ?_
       rintro e w0 ⟨rfl, nq, rfl⟩)
    | (go_at_call 65
       with_reducible refine (become_k B b _ _ _ _ _ 86 7 _ rfl (HM.out.drewN nq)).mono ?_
       rintro e w1 ⟨rfl, hm1, hb1⟩
       obtain ⟨x0, x1, x2, x3, x4⟩ := hm1.cells
       have q1 : BM B w w1 := (BM.drewN (BM.refl B w) nq).trans hb1
       have HM1 := Lib.hid hm1
       clear hm1))
  all_goals go_returns
  all_goals first
    | exact mo_mk HM1.out q1 rfl rfl
    | exact mo_mk (HM1.out.setFresh _) (BM.setCell q1 HM1.out _) rfl rfl

end Go.Proofs.YtihmjejcikpibaaDoor
