/- The program's machine: arith, quoted and program come to what the plain step says. -/
import Derived.Test.YtjkiapgboljabaaMo2
import Derived.Test.YtjkiapgboljabaaMo3
namespace Go.Proofs.Ytjkiapgboljabaa
open Go.RowKit
set_option linter.unusedVariables false
set_option linter.unusedSimpArgs false
set_option maxRecDepth 100000
theorem bf (b v : UInt8) (h : b ≠ v) : ((b.toNat : Int) == (v.toNat : Int)) = false := by
  rw [beq_eq_false_iff_ne]
  intro e
  exact h (UInt8.toNat_inj.1 (by omega))
theorem nn {b v : UInt8} (h : b ≠ v) : b.toNat ≠ v.toNat := fun e => h (UInt8.toNat_inj.1 e)
theorem arith_65 (B b0 : Nat) (r : Stk) (p : Int) (b : UInt8) (f : Bool) (at_ : Int) (w : World) (h : Mach w B b0 ((65, p) :: r) f at_) (hl : r.length ≤ 99990) (ht : r ≠ []) :
    Calls Try.prog 98 #[.pointer (some ⟨b0, 0, none⟩), .int .i64 9, .int .u8 (b.toNat : Int)] w (Mo w B b0 (.tuple #[]) (rPlain ((65, p) :: r) f 65 b at_).1 (rPlain ((65, p) :: r) f 65 b at_).2 at_) := by
  rcases Decidable.em (b = 92) with rfl | hb92
  · have e : rPlain ((65, p) :: r) f 65 92 at_ = (((88, at_) :: (65, p) :: r), f) := by simp [rPlain, rProgram]
    rw [e]
    exact ar_yes B b0 r p 9 65 92 88 f at_ w h hl (by decide)
  have n92 : b.toNat ≠ 92 := nn hb92
  rcases Decidable.em (b = 36) with rfl | hb36
  · have e : rPlain ((65, p) :: r) f 65 36 at_ = (((76, at_) :: (65, p) :: r), f) := by simp [rPlain, rProgram]
    rw [e]
    exact ar_yes B b0 r p 9 65 36 76 f at_ w h hl (by decide)
  have n36 : b.toNat ≠ 36 := nn hb36
  rcases Decidable.em (b = 96) with rfl | hb96
  · have e : rPlain ((65, p) :: r) f 65 96 at_ = (((66, at_) :: (65, p) :: r), f) := by simp [rPlain, rProgram]
    rw [e]
    exact ar_yes B b0 r p 9 65 96 66 f at_ w h hl (by decide)
  have n96 : b.toNat ≠ 96 := nn hb96
  rcases Decidable.em (b = 40) with rfl | hb40
  · have e : rPlain ((65, p) :: r) f 65 40 at_ = (((82, at_) :: (65, p) :: r), f) := by simp [rPlain, rProgram]
    rw [e]
    exact ar_40 B b0 r p 9 65 f at_ w h hl
  have n40 : b.toNat ≠ 40 := nn hb40
  rcases Decidable.em (b = 41) with rfl | hb41
  · have e : rPlain ((65, p) :: r) f 65 41 at_ = (((69, p) :: r), f) := by simp [rPlain, rProgram]
    rw [e]
    exact ar_41_65 B b0 r p f at_ w h hl
  have n41 : b.toNat ≠ 41 := nn hb41
  have e : rPlain ((65, p) :: r) f 65 b at_ = (((65, p) :: r), f) := by simp [rPlain, rProgram, n92, n36, n96, n40, n41]
  rw [e]
  exact ar_no B b0 r p 9 65 b f at_ w h hl (bf b 92 hb92) (bf b 36 hb36) (bf b 96 hb96) (bf b 40 hb40) (bf b 41 hb41)
theorem arith_82 (B b0 : Nat) (r : Stk) (p : Int) (b : UInt8) (f : Bool) (at_ : Int) (w : World) (h : Mach w B b0 ((82, p) :: r) f at_) (hl : r.length ≤ 99990) (ht : r ≠ []) :
    Calls Try.prog 98 #[.pointer (some ⟨b0, 0, none⟩), .int .i64 10, .int .u8 (b.toNat : Int)] w (Mo w B b0 (.tuple #[]) (rPlain ((82, p) :: r) f 82 b at_).1 (rPlain ((82, p) :: r) f 82 b at_).2 at_) := by
  rcases Decidable.em (b = 92) with rfl | hb92
  · have e : rPlain ((82, p) :: r) f 82 92 at_ = (((88, at_) :: (82, p) :: r), f) := by simp [rPlain, rProgram]
    rw [e]
    exact ar_yes B b0 r p 10 82 92 88 f at_ w h hl (by decide)
  have n92 : b.toNat ≠ 92 := nn hb92
  rcases Decidable.em (b = 36) with rfl | hb36
  · have e : rPlain ((82, p) :: r) f 82 36 at_ = (((76, at_) :: (82, p) :: r), f) := by simp [rPlain, rProgram]
    rw [e]
    exact ar_yes B b0 r p 10 82 36 76 f at_ w h hl (by decide)
  have n36 : b.toNat ≠ 36 := nn hb36
  rcases Decidable.em (b = 96) with rfl | hb96
  · have e : rPlain ((82, p) :: r) f 82 96 at_ = (((66, at_) :: (82, p) :: r), f) := by simp [rPlain, rProgram]
    rw [e]
    exact ar_yes B b0 r p 10 82 96 66 f at_ w h hl (by decide)
  have n96 : b.toNat ≠ 96 := nn hb96
  rcases Decidable.em (b = 40) with rfl | hb40
  · have e : rPlain ((82, p) :: r) f 82 40 at_ = (((82, at_) :: (82, p) :: r), f) := by simp [rPlain, rProgram]
    rw [e]
    exact ar_40 B b0 r p 10 82 f at_ w h hl
  have n40 : b.toNat ≠ 40 := nn hb40
  rcases Decidable.em (b = 41) with rfl | hb41
  · have e : rPlain ((82, p) :: r) f 82 41 at_ = (r, f) := by simp [rPlain, rProgram]
    rw [e]
    exact ar_41_82 B b0 r p f at_ w h hl ht
  have n41 : b.toNat ≠ 41 := nn hb41
  have e : rPlain ((82, p) :: r) f 82 b at_ = (((82, p) :: r), f) := by simp [rPlain, rProgram, n92, n36, n96, n40, n41]
  rw [e]
  exact ar_no B b0 r p 10 82 b f at_ w h hl (bf b 92 hb92) (bf b 36 hb36) (bf b 96 hb96) (bf b 40 hb40) (bf b 41 hb41)
theorem quoted_68 (B b0 : Nat) (r : Stk) (p : Int) (b : UInt8) (f : Bool) (at_ : Int) (w : World) (h : Mach w B b0 ((68, p) :: r) f at_) (hl : r.length ≤ 99990) (ht : r ≠ []) :
    Calls Try.prog 99 #[.pointer (some ⟨b0, 0, none⟩), .int .i64 5, .int .u8 (b.toNat : Int)] w (Mo w B b0 (.tuple #[]) (rPlain ((68, p) :: r) f 68 b at_).1 (rPlain ((68, p) :: r) f 68 b at_).2 at_) := by
  rcases Decidable.em (b = 92) with rfl | hb92
  · have e : rPlain ((68, p) :: r) f 68 92 at_ = (((88, at_) :: (68, p) :: r), f) := by simp [rPlain, rProgram]
    rw [e]
    exact qu_yes B b0 r p 5 68 92 88 f at_ w h hl (by decide)
  have n92 : b.toNat ≠ 92 := nn hb92
  rcases Decidable.em (b = 36) with rfl | hb36
  · have e : rPlain ((68, p) :: r) f 68 36 at_ = (((76, at_) :: (68, p) :: r), f) := by simp [rPlain, rProgram]
    rw [e]
    exact qu_yes B b0 r p 5 68 36 76 f at_ w h hl (by decide)
  have n36 : b.toNat ≠ 36 := nn hb36
  rcases Decidable.em (b = 96) with rfl | hb96
  · have e : rPlain ((68, p) :: r) f 68 96 at_ = (((66, at_) :: (68, p) :: r), f) := by simp [rPlain, rProgram]
    rw [e]
    exact qu_yes B b0 r p 5 68 96 66 f at_ w h hl (by decide)
  have n96 : b.toNat ≠ 96 := nn hb96
  rcases Decidable.em (b = 34) with rfl | hb34
  · have e : rPlain ((68, p) :: r) f 68 34 at_ = (r, f) := by simp [rPlain, rProgram]
    rw [e]
    exact qu_34_68 B b0 r p f at_ w h hl ht
  have n34 : b.toNat ≠ 34 := nn hb34
  have e : rPlain ((68, p) :: r) f 68 b at_ = (((68, p) :: r), f) := by simp [rPlain, rProgram, n92, n36, n96, n34]
  rw [e]
  exact qu_no_68 B b0 r p b f at_ w h hl (bf b 92 hb92) (bf b 36 hb36) (bf b 96 hb96) (bf b 34 hb34)
theorem quoted_73 (B b0 : Nat) (r : Stk) (p : Int) (b : UInt8) (f : Bool) (at_ : Int) (w : World) (h : Mach w B b0 ((73, p) :: r) f at_) (hl : r.length ≤ 99990) (ht : r ≠ []) :
    Calls Try.prog 99 #[.pointer (some ⟨b0, 0, none⟩), .int .i64 8, .int .u8 (b.toNat : Int)] w (Mo w B b0 (.tuple #[]) (rPlain ((73, p) :: r) f 73 b at_).1 (rPlain ((73, p) :: r) f 73 b at_).2 at_) := by
  rcases Decidable.em (b = 92) with rfl | hb92
  · have e : rPlain ((73, p) :: r) f 73 92 at_ = (((88, at_) :: (73, p) :: r), f) := by simp [rPlain, rProgram]
    rw [e]
    exact qu_yes B b0 r p 8 73 92 88 f at_ w h hl (by decide)
  have n92 : b.toNat ≠ 92 := nn hb92
  rcases Decidable.em (b = 36) with rfl | hb36
  · have e : rPlain ((73, p) :: r) f 73 36 at_ = (((76, at_) :: (73, p) :: r), f) := by simp [rPlain, rProgram]
    rw [e]
    exact qu_yes B b0 r p 8 73 36 76 f at_ w h hl (by decide)
  have n36 : b.toNat ≠ 36 := nn hb36
  rcases Decidable.em (b = 96) with rfl | hb96
  · have e : rPlain ((73, p) :: r) f 73 96 at_ = (((66, at_) :: (73, p) :: r), f) := by simp [rPlain, rProgram]
    rw [e]
    exact qu_yes B b0 r p 8 73 96 66 f at_ w h hl (by decide)
  have n96 : b.toNat ≠ 96 := nn hb96
  rcases Decidable.em (b = 34) with rfl | hb34
  · have e : rPlain ((73, p) :: r) f 73 34 at_ = (((68, at_) :: (73, p) :: r), f) := by simp [rPlain, rProgram]
    rw [e]
    exact qu_34_x B b0 r p 8 73 f at_ w h hl rfl
  have n34 : b.toNat ≠ 34 := nn hb34
  rcases Decidable.em (b = 125) with rfl | hb125
  · have e : rPlain ((73, p) :: r) f 73 125 at_ = (r, f) := by simp [rPlain, rProgram]
    rw [e]
    exact qu_125_x B b0 r p 8 73 f at_ w h hl rfl rfl ht
  have n125 : b.toNat ≠ 125 := nn hb125
  have e : rPlain ((73, p) :: r) f 73 b at_ = (((73, p) :: r), f) := by simp [rPlain, rProgram, n92, n36, n96, n34, n125]
  rw [e]
  exact qu_no_73 B b0 r p b f at_ w h hl (bf b 92 hb92) (bf b 36 hb36) (bf b 96 hb96) (bf b 34 hb34) (bf b 125 hb125)
theorem quoted_86 (B b0 : Nat) (r : Stk) (p : Int) (b : UInt8) (f : Bool) (at_ : Int) (w : World) (h : Mach w B b0 ((86, p) :: r) f at_) (hl : r.length ≤ 99990) (ht : r ≠ []) :
    Calls Try.prog 99 #[.pointer (some ⟨b0, 0, none⟩), .int .i64 7, .int .u8 (b.toNat : Int)] w (Mo w B b0 (.tuple #[]) (rPlain ((86, p) :: r) f 86 b at_).1 (rPlain ((86, p) :: r) f 86 b at_).2 at_) := by
  rcases Decidable.em (b = 92) with rfl | hb92
  · have e : rPlain ((86, p) :: r) f 86 92 at_ = (((88, at_) :: (86, p) :: r), f) := by simp [rPlain, rProgram]
    rw [e]
    exact qu_yes B b0 r p 7 86 92 88 f at_ w h hl (by decide)
  have n92 : b.toNat ≠ 92 := nn hb92
  rcases Decidable.em (b = 36) with rfl | hb36
  · have e : rPlain ((86, p) :: r) f 86 36 at_ = (((76, at_) :: (86, p) :: r), f) := by simp [rPlain, rProgram]
    rw [e]
    exact qu_yes B b0 r p 7 86 36 76 f at_ w h hl (by decide)
  have n36 : b.toNat ≠ 36 := nn hb36
  rcases Decidable.em (b = 96) with rfl | hb96
  · have e : rPlain ((86, p) :: r) f 86 96 at_ = (((66, at_) :: (86, p) :: r), f) := by simp [rPlain, rProgram]
    rw [e]
    exact qu_yes B b0 r p 7 86 96 66 f at_ w h hl (by decide)
  have n96 : b.toNat ≠ 96 := nn hb96
  rcases Decidable.em (b = 34) with rfl | hb34
  · have e : rPlain ((86, p) :: r) f 86 34 at_ = (((68, at_) :: (86, p) :: r), f) := by simp [rPlain, rProgram]
    rw [e]
    exact qu_34_x B b0 r p 7 86 f at_ w h hl rfl
  have n34 : b.toNat ≠ 34 := nn hb34
  rcases Decidable.em (b = 125) with rfl | hb125
  · have e : rPlain ((86, p) :: r) f 86 125 at_ = (r, f) := by simp [rPlain, rProgram]
    rw [e]
    exact qu_125_x B b0 r p 7 86 f at_ w h hl rfl rfl ht
  have n125 : b.toNat ≠ 125 := nn hb125
  rcases Decidable.em (b = 39) with rfl | hb39
  · have e : rPlain ((86, p) :: r) f 86 39 at_ = (((83, at_) :: (86, p) :: r), f) := by simp [rPlain, rProgram]
    rw [e]
    exact qu_39_86 B b0 r p f at_ w h hl
  have n39 : b.toNat ≠ 39 := nn hb39
  have e : rPlain ((86, p) :: r) f 86 b at_ = (((86, p) :: r), f) := by simp [rPlain, rProgram, n92, n36, n96, n34, n125, n39]
  rw [e]
  exact qu_no_86 B b0 r p b f at_ w h hl (bf b 92 hb92) (bf b 36 hb36) (bf b 96 hb96) (bf b 34 hb34) (bf b 125 hb125) (bf b 39 hb39)
theorem program_84 (B b0 : Nat) (r : Stk) (p : Int) (b : UInt8) (f : Bool) (at_ : Int) (w : World) (h : Mach w B b0 ((84, p) :: r) f at_) (hl : r.length ≤ 99990)  :
    Calls Try.prog 96 #[.pointer (some ⟨b0, 0, none⟩), .int .i64 0, .int .u8 (b.toNat : Int)] w (Mo w B b0 (.tuple #[]) (rPlain ((84, p) :: r) f 84 b at_).1 (rPlain ((84, p) :: r) f 84 b at_).2 at_) := by
  rcases Decidable.em (b = 92) with rfl | hb92
  · have e : rPlain ((84, p) :: r) f 84 92 at_ = (((88, at_) :: (84, p) :: r), f) := by simp [rPlain, rProgram]
    rw [e]
    exact pr_92 B b0 r p 0 84 f at_ w h hl
  have n92 : b.toNat ≠ 92 := nn hb92
  rcases Decidable.em (b = 39) with rfl | hb39
  · have e : rPlain ((84, p) :: r) f 84 39 at_ = (((83, at_) :: (84, p) :: r), false) := by simp [rPlain, rProgram]
    rw [e]
    exact pr_39 B b0 r p 0 84 f at_ w h hl
  have n39 : b.toNat ≠ 39 := nn hb39
  rcases Decidable.em (b = 34) with rfl | hb34
  · have e : rPlain ((84, p) :: r) f 84 34 at_ = (((68, at_) :: (84, p) :: r), false) := by simp [rPlain, rProgram]
    rw [e]
    exact pr_34 B b0 r p 0 84 f at_ w h hl
  have n34 : b.toNat ≠ 34 := nn hb34
  rcases Decidable.em (b = 96) with rfl | hb96
  · have e : rPlain ((84, p) :: r) f 84 96 at_ = (((66, at_) :: (84, p) :: r), false) := by simp [rPlain, rProgram]
    rw [e]
    exact pr_96 B b0 r p 0 84 f at_ w h hl
  have n96 : b.toNat ≠ 96 := nn hb96
  rcases Decidable.em (b = 36) with rfl | hb36
  · have e : rPlain ((84, p) :: r) f 84 36 at_ = (((76, at_) :: (84, p) :: r), false) := by simp [rPlain, rProgram]
    rw [e]
    exact pr_36 B b0 r p 0 84 f at_ w h hl
  have n36 : b.toNat ≠ 36 := nn hb36
  rcases Decidable.em (b = 40) with rfl | hb40
  · have e : rPlain ((84, p) :: r) f 84 40 at_ = (((84, p) :: r), true) := by simp [rPlain, rProgram]
    rw [e]
    exact pr_40t B b0 r p 84 f at_ w h hl
  have n40 : b.toNat ≠ 40 := nn hb40
  rcases Decidable.em (b = 41) with rfl | hb41
  · have e : rPlain ((84, p) :: r) f 84 41 at_ = (((84, p) :: r), true) := by simp [rPlain, rProgram]
    rw [e]
    exact pr_41t B b0 r p 84 f at_ w h hl
  have n41 : b.toNat ≠ 41 := nn hb41
  rcases Decidable.em (b = 35) with rfl | hb35
  · cases f
    · have e : rPlain ((84, p) :: r) false 84 35 at_ = (((84, p) :: r), false) := by simp [rPlain, rProgram, endsB, clsOf]
      rw [e]
      exact pr_35f B b0 r p 0 84 false at_ w h hl
    · have e : rPlain ((84, p) :: r) true 84 35 at_ = (((35, at_) :: (84, p) :: r), true) := by simp [rPlain, rProgram]
      rw [e]
      exact pr_35t B b0 r p 0 84 true at_ w h hl
  have n35 : b.toNat ≠ 35 := nn hb35
  have e : rPlain ((84, p) :: r) f 84 b at_ = (((84, p) :: r), endsB b) := by simp [rPlain, rProgram, n92, n39, n34, n96, n36, n40, n41, n35]
  rw [e]
  exact pr_no B b0 r p 0 84 b f at_ w h hl (bf b 92 hb92) (bf b 39 hb39) (bf b 34 hb34) (bf b 96 hb96) (bf b 36 hb36) (bf b 35 hb35) (bf b 40 hb40) (bf b 41 hb41)
theorem program_67 (B b0 : Nat) (r : Stk) (p : Int) (b : UInt8) (f : Bool) (at_ : Int) (w : World) (h : Mach w B b0 ((67, p) :: r) f at_) (hl : r.length ≤ 99990) (ht : r ≠ []) :
    Calls Try.prog 96 #[.pointer (some ⟨b0, 0, none⟩), .int .i64 1, .int .u8 (b.toNat : Int)] w (Mo w B b0 (.tuple #[]) (rPlain ((67, p) :: r) f 67 b at_).1 (rPlain ((67, p) :: r) f 67 b at_).2 at_) := by
  rcases Decidable.em (b = 92) with rfl | hb92
  · have e : rPlain ((67, p) :: r) f 67 92 at_ = (((88, at_) :: (67, p) :: r), f) := by simp [rPlain, rProgram]
    rw [e]
    exact pr_92 B b0 r p 1 67 f at_ w h hl
  have n92 : b.toNat ≠ 92 := nn hb92
  rcases Decidable.em (b = 39) with rfl | hb39
  · have e : rPlain ((67, p) :: r) f 67 39 at_ = (((83, at_) :: (67, p) :: r), false) := by simp [rPlain, rProgram]
    rw [e]
    exact pr_39 B b0 r p 1 67 f at_ w h hl
  have n39 : b.toNat ≠ 39 := nn hb39
  rcases Decidable.em (b = 34) with rfl | hb34
  · have e : rPlain ((67, p) :: r) f 67 34 at_ = (((68, at_) :: (67, p) :: r), false) := by simp [rPlain, rProgram]
    rw [e]
    exact pr_34 B b0 r p 1 67 f at_ w h hl
  have n34 : b.toNat ≠ 34 := nn hb34
  rcases Decidable.em (b = 96) with rfl | hb96
  · have e : rPlain ((67, p) :: r) f 67 96 at_ = (((66, at_) :: (67, p) :: r), false) := by simp [rPlain, rProgram]
    rw [e]
    exact pr_96 B b0 r p 1 67 f at_ w h hl
  have n96 : b.toNat ≠ 96 := nn hb96
  rcases Decidable.em (b = 36) with rfl | hb36
  · have e : rPlain ((67, p) :: r) f 67 36 at_ = (((76, at_) :: (67, p) :: r), false) := by simp [rPlain, rProgram]
    rw [e]
    exact pr_36 B b0 r p 1 67 f at_ w h hl
  have n36 : b.toNat ≠ 36 := nn hb36
  rcases Decidable.em (b = 40) with rfl | hb40
  · have e : rPlain ((67, p) :: r) f 67 40 at_ = (((80, at_) :: (67, p) :: r), true) := by simp [rPlain, rProgram]
    rw [e]
    exact pr_40_1 B b0 r p 67 f at_ w h hl
  have n40 : b.toNat ≠ 40 := nn hb40
  rcases Decidable.em (b = 41) with rfl | hb41
  · have e : rPlain ((67, p) :: r) f 67 41 at_ = (r, false) := by simp [rPlain, rProgram]
    rw [e]
    exact pr_41_1 B b0 r p 67 f at_ w h hl ht
  have n41 : b.toNat ≠ 41 := nn hb41
  rcases Decidable.em (b = 35) with rfl | hb35
  · cases f
    · have e : rPlain ((67, p) :: r) false 67 35 at_ = (((67, p) :: r), false) := by simp [rPlain, rProgram, endsB, clsOf]
      rw [e]
      exact pr_35f B b0 r p 1 67 false at_ w h hl
    · have e : rPlain ((67, p) :: r) true 67 35 at_ = (((35, at_) :: (67, p) :: r), true) := by simp [rPlain, rProgram]
      rw [e]
      exact pr_35t B b0 r p 1 67 true at_ w h hl
  have n35 : b.toNat ≠ 35 := nn hb35
  have e : rPlain ((67, p) :: r) f 67 b at_ = (((67, p) :: r), endsB b) := by simp [rPlain, rProgram, n92, n39, n34, n96, n36, n40, n41, n35]
  rw [e]
  exact pr_no B b0 r p 1 67 b f at_ w h hl (bf b 92 hb92) (bf b 39 hb39) (bf b 34 hb34) (bf b 96 hb96) (bf b 36 hb36) (bf b 35 hb35) (bf b 40 hb40) (bf b 41 hb41)
theorem program_80 (B b0 : Nat) (r : Stk) (p : Int) (b : UInt8) (f : Bool) (at_ : Int) (w : World) (h : Mach w B b0 ((80, p) :: r) f at_) (hl : r.length ≤ 99990) (ht : r ≠ []) :
    Calls Try.prog 96 #[.pointer (some ⟨b0, 0, none⟩), .int .i64 2, .int .u8 (b.toNat : Int)] w (Mo w B b0 (.tuple #[]) (rPlain ((80, p) :: r) f 80 b at_).1 (rPlain ((80, p) :: r) f 80 b at_).2 at_) := by
  rcases Decidable.em (b = 92) with rfl | hb92
  · have e : rPlain ((80, p) :: r) f 80 92 at_ = (((88, at_) :: (80, p) :: r), f) := by simp [rPlain, rProgram]
    rw [e]
    exact pr_92 B b0 r p 2 80 f at_ w h hl
  have n92 : b.toNat ≠ 92 := nn hb92
  rcases Decidable.em (b = 39) with rfl | hb39
  · have e : rPlain ((80, p) :: r) f 80 39 at_ = (((83, at_) :: (80, p) :: r), false) := by simp [rPlain, rProgram]
    rw [e]
    exact pr_39 B b0 r p 2 80 f at_ w h hl
  have n39 : b.toNat ≠ 39 := nn hb39
  rcases Decidable.em (b = 34) with rfl | hb34
  · have e : rPlain ((80, p) :: r) f 80 34 at_ = (((68, at_) :: (80, p) :: r), false) := by simp [rPlain, rProgram]
    rw [e]
    exact pr_34 B b0 r p 2 80 f at_ w h hl
  have n34 : b.toNat ≠ 34 := nn hb34
  rcases Decidable.em (b = 96) with rfl | hb96
  · have e : rPlain ((80, p) :: r) f 80 96 at_ = (((66, at_) :: (80, p) :: r), false) := by simp [rPlain, rProgram]
    rw [e]
    exact pr_96 B b0 r p 2 80 f at_ w h hl
  have n96 : b.toNat ≠ 96 := nn hb96
  rcases Decidable.em (b = 36) with rfl | hb36
  · have e : rPlain ((80, p) :: r) f 80 36 at_ = (((76, at_) :: (80, p) :: r), false) := by simp [rPlain, rProgram]
    rw [e]
    exact pr_36 B b0 r p 2 80 f at_ w h hl
  have n36 : b.toNat ≠ 36 := nn hb36
  rcases Decidable.em (b = 40) with rfl | hb40
  · have e : rPlain ((80, p) :: r) f 80 40 at_ = (((80, at_) :: (80, p) :: r), true) := by simp [rPlain, rProgram]
    rw [e]
    exact pr_40_2 B b0 r p 80 f at_ w h hl
  have n40 : b.toNat ≠ 40 := nn hb40
  rcases Decidable.em (b = 41) with rfl | hb41
  · have e : rPlain ((80, p) :: r) f 80 41 at_ = (r, true) := by simp [rPlain, rProgram]
    rw [e]
    exact pr_41_2 B b0 r p 80 f at_ w h hl ht
  have n41 : b.toNat ≠ 41 := nn hb41
  rcases Decidable.em (b = 35) with rfl | hb35
  · cases f
    · have e : rPlain ((80, p) :: r) false 80 35 at_ = (((80, p) :: r), false) := by simp [rPlain, rProgram, endsB, clsOf]
      rw [e]
      exact pr_35f B b0 r p 2 80 false at_ w h hl
    · have e : rPlain ((80, p) :: r) true 80 35 at_ = (((35, at_) :: (80, p) :: r), true) := by simp [rPlain, rProgram]
      rw [e]
      exact pr_35t B b0 r p 2 80 true at_ w h hl
  have n35 : b.toNat ≠ 35 := nn hb35
  have e : rPlain ((80, p) :: r) f 80 b at_ = (((80, p) :: r), endsB b) := by simp [rPlain, rProgram, n92, n39, n34, n96, n36, n40, n41, n35]
  rw [e]
  exact pr_no B b0 r p 2 80 b f at_ w h hl (bf b 92 hb92) (bf b 39 hb39) (bf b 34 hb34) (bf b 96 hb96) (bf b 36 hb36) (bf b 35 hb35) (bf b 40 hb40) (bf b 41 hb41)
end Go.Proofs.Ytjkiapgboljabaa
