/- Which parts are around a place, which are right within one: the tests. -/
import Derived.Test.YtjkiapgboljabaaPa0
import Derived.BigQuiet
namespace Go.Proofs.Ytjkiapgboljabaa
open Go.RowKit
set_option linter.unusedVariables false
set_option linter.unusedSimpArgs false
set_option maxRecDepth 100000
def arB (x : Int) (q : Prt) : Bool := decide (q.fr < x) && (decide (x < q.to) || (q.op && (x == q.to)))
def kiB (x : Int) (q : Prt) : Bool := q.up == x
set_option maxHeartbeats 1000000 in
theorem around1_m (q : Prt) (x : Int) (b : Nat) (w : World) (hb : b < w.heap.size) (hx : w.cell? ⟨b, 0, none⟩ = some (.int .i64 x)) :
    Calls Try.prog 52 #[.agg #[.int .i64 q.mode, .int .i64 q.fr, .int .i64 (toP q), .int .i64 q.up, .bool q.op], .pointer (some ⟨b, 0, none⟩)] w fun e w' => e = .returned (.bool (arB x q)) ∧ Below w.heap.size w w' := by
  have y0 : (w.alloc (.cells #[.int .i64 q.mode, .int .i64 q.fr, .int .i64 (toP q), .int .i64 q.up, .bool q.op] 26)).cell? ⟨b, 0, none⟩ = some (.int .i64 x) := by
    rw [← hx]; exact (Below.alloc (Below.refl _ _) (Nat.le_refl _) _).cell hb
  have hne : ¬ b = w.heap.size := by omega
  have HB := Lib.hid hb
  clear hb
  by_cases h1 : q.fr < x
  · have t1 : decide (q.fr < x) = true := decide_eq_true h1
    by_cases h2 : x < toP q
    · have t2 : decide (x < toP q) = true := decide_eq_true h2
      have e : arB x q = true := by unfold arB; rw [t1, show decide (x < q.to) = true from t2]; rfl
      rw [e]
      go_enter Try.func52, Try.ntmps52
      go_wp2_with fail
      go_ret
      exact ⟨rfl, Below.alloc (Below.refl _ _) (Nat.le_refl _) _⟩
    · have t2 : decide (x < toP q) = false := decide_eq_false h2
      cases h3 : q.op
      · have e : arB x q = false := by unfold arB; rw [t1, show decide (x < q.to) = false from t2, h3]; rfl
        rw [e]
        rw [h3] at y0
        go_enter Try.func52, Try.ntmps52
        go_wp2_with fail
        go_ret
        exact ⟨rfl, Below.alloc (Below.refl _ _) (Nat.le_refl _) _⟩
      · have e : arB x q = (x == toP q) := by unfold arB; rw [t1, show decide (x < q.to) = false from t2, h3]; simp [toP]
        rw [e]
        clear e
        rw [h3] at y0
        go_enter Try.func52, Try.ntmps52
        go_wp2_with fail
        go_ret
        exact ⟨rfl, Below.alloc (Below.refl _ _) (Nat.le_refl _) _⟩
  · have t1 : decide (q.fr < x) = false := decide_eq_false h1
    have e : arB x q = false := by unfold arB; rw [t1]; rfl
    rw [e]
    go_enter Try.func52, Try.ntmps52
    go_wp2_with fail
    go_ret
    exact ⟨rfl, Below.alloc (Below.refl _ _) (Nat.le_refl _) _⟩
set_option maxHeartbeats 1000000 in
theorem kids1_m (q : Prt) (x : Int) (b : Nat) (w : World) (hb : b < w.heap.size) (hx : w.cell? ⟨b, 0, none⟩ = some (.int .i64 x)) :
    Calls Try.prog 53 #[.agg #[.int .i64 q.mode, .int .i64 q.fr, .int .i64 (toP q), .int .i64 q.up, .bool q.op], .pointer (some ⟨b, 0, none⟩)] w fun e w' => e = .returned (.bool (kiB x q)) ∧ Below w.heap.size w w' := by
  have y0 : (w.alloc (.cells #[.int .i64 q.mode, .int .i64 q.fr, .int .i64 (toP q), .int .i64 q.up, .bool q.op] 26)).cell? ⟨b, 0, none⟩ = some (.int .i64 x) := by
    rw [← hx]; exact (Below.alloc (Below.refl _ _) (Nat.le_refl _) _).cell hb
  have hne : ¬ b = w.heap.size := by omega
  unfold kiB
  go_enter Try.func53, Try.ntmps53
  go_wp2_with fail
  go_ret
  exact ⟨rfl, Below.alloc (Below.refl _ _) (Nat.le_refl _) _⟩
end Go.Proofs.Ytjkiapgboljabaa
