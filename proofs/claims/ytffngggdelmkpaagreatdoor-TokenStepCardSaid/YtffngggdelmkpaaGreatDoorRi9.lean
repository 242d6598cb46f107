/- What the reference's step holds while a document is added: its boxes, told for the world at hand. -/
import Derived.Test.YtffngggdelmkpaaGreatDoorDm9
import Derived.Test.YtffngggdelmkpaaGreatDoorSt9
import Derived.Test.YtffngggdelmkpaaGreatDoorPa0
namespace Go.Proofs.YtffngggdelmkpaaGreatDoor
open Go.RowKit
set_option linter.unusedVariables false
set_option linter.unusedSimpArgs false
set_option maxRecDepth 100000
structure RI (w : World) (xa : Int) (P : Value) (B2 : Nat) (u : World) : Prop where
  k0 : Bk u w.heap.size 26 #[.int .i64 xa, P, .bool false]
  k1 : Bk u (w.heap.size + 1) 33 #[.int .i64 0, .int .i64 0, .int .i64 0, .bool false]
  k2 : Bk u (w.heap.size + 1 + 1) 26 #[.int .i64 0, .slice none 0 0, .bool false]
  kB : Bk u B2 26 #[.int .i64 0, P, .bool false]
  kb : Below w.heap.size w u
theorem RI.below {w u u' : World} {xa : Int} {P : Value} {B2 : Nat} (h : RI w xa P B2 u) (hb : Below u.heap.size u u') : RI w xa P B2 u' :=
  ⟨h.k0.below hb h.k0.lt, h.k1.below hb h.k1.lt, h.k2.below hb h.k2.lt, h.kB.below hb h.kB.lt, h.kb.trans (hb.mono h.kb.size)⟩
theorem RI.alloc {w u : World} {xa : Int} {P : Value} {B2 : Nat} (h : RI w xa P B2 u) (o : Obj) : RI w xa P B2 (u.alloc o) :=
  ⟨h.k0.alloc o, h.k1.alloc o, h.k2.alloc o, h.kB.alloc o, h.kb.alloc h.kb.size o⟩
theorem RI.drew {w u : World} {xa : Int} {P : Value} {B2 : Nat} (h : RI w xa P B2 u) : RI w xa P B2 u.drew :=
  ⟨h.k0.drew, h.k1.drew, h.k2.drew, h.kB.drew, below_drewN' h.kb 1⟩
theorem RI.grown {w u u' : World} {xa : Int} {P : Value} {B2 : Nat} (h : RI w xa P B2 u) (hB : w.heap.size + 1 + 1 < B2) {row : Option Nat} (hg : u.grownBy u' row) (hr : ∀ k, row = some k → B2 < k) : RI w xa P B2 u' :=
  ⟨h.k0.grown hg (fun e => by have := hr _ e.symm; omega), h.k1.grown hg (fun e => by have := hr _ e.symm; omega), h.k2.grown hg (fun e => by have := hr _ e.symm; omega), h.kB.grown hg (fun e => by have := hr _ e.symm; omega),
    Below.grown h.kb hg h.kb.size (fun k hk => by have := hr k hk; omega)⟩
theorem RI.cells {w u : World} {xa : Int} {P : Value} {B2 : Nat} (h : RI w xa P B2 u) : u.cell? ⟨w.heap.size, 0, none⟩ = some (.int .i64 xa) ∧ u.cell? ⟨w.heap.size, 1, none⟩ = some P ∧ u.cell? ⟨w.heap.size, 2, none⟩ = some (.bool false) :=
  ⟨by rw [h.k0.cell]; rfl, by rw [h.k0.cell]; rfl, by rw [h.k0.cell]; rfl⟩
/-- An empty row, new. -/
theorem own_nil2 (w : World) (B : Nat) (e : TypeId) (hB : B ≤ w.heap.size) : (w.alloc (.cells #[] e)).ownsRow B e 2 (.slice (some ⟨w.heap.size, 0, none⟩) 0 0) 0 [] :=
  ⟨by simp, .inr ⟨w.heap.size, 0, #[], rfl, hB, Bk.new _ _ _, Nat.le_refl _, by unfold maxLen; omega, by simp, by simp⟩⟩
end Go.Proofs.YtffngggdelmkpaaGreatDoor
