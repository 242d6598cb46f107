/- quillwortref07.Of: lemmas for the walk. -/
import Derived.Test.YtjkiapgboljabaaRo0
import Derived.Test.YtjkiapgboljabaaSt0
import Derived.Test.YtjkiapgboljabaaN7
namespace Go.Proofs.Ytjkiapgboljabaa
open Go.RowKit
set_option linter.unusedVariables false
set_option linter.unusedSimpArgs false
set_option maxRecDepth 100000
theorem Try.infoState : (Try.prog.info? 30).map (fun i => (i.zero, i.size, i.bytes)) = some (some (.agg #[.string ByteArray.empty, .slice none 0 0, .bool false]), 3, 48) := by kernel_rfl
theorem one_sv (t : SV) : ∀ u ∈ svc t, u.oneCell' = true := by
  intro u hu
  simp [svc] at hu
  rcases hu with rfl | rfl | rfl <;> rfl
theorem outR_len (l : List UInt8) : ∀ f, (outR l f).length ≤ f
  | 0 => Nat.le_refl _
  | f + 1 => by
    have := outR_len l f
    show (outR l f ++ _).length ≤ f + 1
    rw [List.length_append]
    split <;> simp <;> omega
theorem upR_take (n : Nat) (p : Int) : ∀ (O : List Prt) (k a : Nat) (u : Int) (q : Prt), O[k]? = some q → upR n p (O.take (k + 1)) a u = if 1 < n ∧ q.fr = p then ((a + k : Nat) : Int) else upR n p (O.take k) a u
  | [], k, a, u, q, h => by simp at h
  | x :: O, 0, a, u, q, h => by simp at h; subst h; simp [upR]
  | x :: O, k + 1, a, u, q, h => by
    rw [List.take_succ_cons, List.take_succ_cons]
    unfold upR
    rw [upR_take n p O k (a + 1) _ q (by simpa using h)]
    rw [show a + 1 + k = a + (k + 1) by omega]
theorem scanR_fr (F : Nat → Stk) (fr : Int) (n : Nat) : ∀ (m k : Nat) (q : Prt), (scanR F fr n m k q).fr = q.fr
  | 0, _, _ => rfl
  | m + 1, k, q => by
    unfold scanR
    split
    · rfl
    · rw [scanR_fr F fr n m]
theorem rS_FT (l : List UInt8) (k : Nat) : rS (rAt l k).1 = 84 :: (FT l k).map (·.1) := by
  unfold rS
  rw [← List.map_reverse, rAt_rev]
  rfl
/-- A part in a block of its own. -/
def Pb (w : World) (b : Nat) (q : Prt) : Prop := Bk w b 26 #[.int .i64 q.mode, .int .i64 q.fr, .int .i64 (toP q), .int .i64 q.up, .bool q.op]
theorem Pb.ten {w : World} {b : Nat} {q : Prt} (h : Pb w b q) : w.cell? ⟨b, 0, none⟩ = some (.int .i64 q.mode) ∧ w.cell? ⟨b, 1, none⟩ = some (.int .i64 q.fr) ∧ w.cell? ⟨b, 2, none⟩ = some (.int .i64 (toP q)) ∧ w.cell? ⟨b, 3, none⟩ = some (.int .i64 q.up) ∧ w.cell? ⟨b, 4, none⟩ = some (.bool q.op) ∧
    w.frozen? ⟨b, 0, none⟩ = false ∧ w.frozen? ⟨b, 1, none⟩ = false ∧ w.frozen? ⟨b, 2, none⟩ = false ∧ w.frozen? ⟨b, 3, none⟩ = false ∧ w.frozen? ⟨b, 4, none⟩ = false :=
  ⟨by rw [Bk.cell h]; rfl, by rw [Bk.cell h]; rfl, by rw [Bk.cell h]; rfl, by rw [Bk.cell h]; rfl, by rw [Bk.cell h]; rfl, Bk.frozen h _, Bk.frozen h _, Bk.frozen h _, Bk.frozen h _, Bk.frozen h _⟩
theorem Pb.drewN {w : World} {b : Nat} {q : Prt} (h : Pb w b q) (n : Nat) : Pb (w.drewN n) b q := h
theorem Pb.drew {w : World} {b : Nat} {q : Prt} (h : Pb w b q) : Pb w.drew b q := h
theorem Pb.mode {w : World} {b : Nat} {q : Prt} (h : Pb w b q) (v : Int) : Pb (w.setCell ⟨b, 0, none⟩ (.int .i64 v)) b { q with mode := v } := by have := Bk.set h 0 (.int .i64 v); unfold Pb; simpa [setTo, toP] using this
theorem Pb.to_ {w : World} {b : Nat} {q : Prt} (h : Pb w b q) (v : Int) : Pb (w.setCell ⟨b, 2, none⟩ (.int .i64 v)) b (setTo q v) := by have := Bk.set h 2 (.int .i64 v); unfold Pb; simpa [setTo, toP] using this
theorem Pb.up {w : World} {b : Nat} {q : Prt} (h : Pb w b q) (v : Int) : Pb (w.setCell ⟨b, 3, none⟩ (.int .i64 v)) b { q with up := v } := by have := Bk.set h 3 (.int .i64 v); unfold Pb; simpa [setTo, toP] using this
theorem Pb.op {w : World} {b : Nat} {q : Prt} (h : Pb w b q) (v : Bool) : Pb (w.setCell ⟨b, 4, none⟩ (.bool v)) b { q with op := v } := by have := Bk.set h 4 (.bool v); unfold Pb; simpa [setTo, toP] using this
theorem Pb.lt {w : World} {b : Nat} {q : Prt} (h : Pb w b q) : b < w.heap.size := Bk.lt h
end Go.Proofs.Ytjkiapgboljabaa
