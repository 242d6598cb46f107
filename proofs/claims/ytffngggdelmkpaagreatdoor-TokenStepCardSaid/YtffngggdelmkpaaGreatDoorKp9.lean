/- Cells that stay behind stores and new blocks; a struct of four cells and one of three in boxes of their own, in whatever order these were made. -/
import Derived.Test.YtffngggdelmkpaaGreatDoorSp9
namespace Go.Proofs.YtffngggdelmkpaaGreatDoor
open Go.RowKit
set_option linter.unusedVariables false
set_option linter.unusedSimpArgs false
set_option maxRecDepth 100000
theorem keep_far {W : World} {b c i j : Nat} {u v : Value} (h : W.cell? ⟨c, j, none⟩ = some u) (hne : ¬ b = c) : (W.setCell ⟨b, i, none⟩ v).cell? ⟨c, j, none⟩ = some u := (World.cell?_setCell_far W ⟨b, i, none⟩ ⟨c, j, none⟩ v hne).trans h
theorem keep_new {W : World} {a : Addr} {u : Value} {o : Obj} (h : W.cell? a = some u) : (W.alloc o).cell? a = some u := (World.cell?_alloc_some W a o (by rw [h]; rfl)).trans h
theorem keep_drew {W : World} {a : Addr} {u : Value} (h : W.cell? a = some u) : W.drew.cell? a = some u := h
/-- Two boxes that were made since a world, and what they hold. -/
def Two (wr w5 W : World) (s t : Value) (t1 t2 : TypeId) (cs ds : Array Value) : Prop :=
  ∃ b1 b2 : Nat, s = .pointer (some ⟨b1, 0, none⟩) ∧ t = .pointer (some ⟨b2, 0, none⟩) ∧ Bk W b1 t1 cs ∧ Bk W b2 t2 ds ∧ b1 ≠ b2 ∧ wr.heap.size ≤ b1 ∧ wr.heap.size ≤ b2 ∧ Below wr.heap.size wr W ∧
    ∀ (e : TypeId) (sz n : Nat) (v : Value) (xs : List Value), e ≠ t1 → e ≠ t2 → Rt w5 e sz v n xs → Rt W e sz v n xs
section
variable {wr w5 : World} {t1 t2 : TypeId} {a0 a1 a2 a3 d0 d1 d2 u0 u1 u2 u3 z0 z1 z2 : Value}
theorem two1 (hb : Below wr.heap.size wr w5) : Two wr w5 ((w5.alloc (.cells #[a0, a1, a2, a3] t1)).alloc (.cells #[d0, d1, d2] t2)) (.pointer (some ⟨w5.heap.size, 0, none⟩)) (.pointer (some ⟨w5.heap.size + 1, 0, none⟩)) t1 t2 #[a0, a1, a2, a3] #[d0, d1, d2] :=
  ⟨_, _, rfl, rfl, (Bk.new w5 _ _).alloc _, bk_second w5 _ _ _ _, by omega, hb.size, by have := hb.size; omega, (hb.alloc hb.size _).alloc (by have := hb.size; simp; omega) _,
    fun e sz n v xs _ _ h => (h.next (Below.alloc (Below.refl _ _) (Nat.le_refl _) _)).next (Below.alloc (Below.refl _ _) (Nat.le_refl _) _)⟩
theorem two2 (hb : Below wr.heap.size wr w5) : Two wr w5 ((w5.alloc (.cells #[d0, d1, d2] t2)).alloc (.cells #[a0, a1, a2, a3] t1)) (.pointer (some ⟨w5.heap.size + 1, 0, none⟩)) (.pointer (some ⟨w5.heap.size, 0, none⟩)) t1 t2 #[a0, a1, a2, a3] #[d0, d1, d2] :=
  ⟨_, _, rfl, rfl, bk_second w5 _ _ _ _, (Bk.new w5 _ _).alloc _, by omega, by have := hb.size; omega, hb.size, (hb.alloc hb.size _).alloc (by have := hb.size; simp; omega) _,
    fun e sz n v xs _ _ h => (h.next (Below.alloc (Below.refl _ _) (Nat.le_refl _) _)).next (Below.alloc (Below.refl _ _) (Nat.le_refl _) _)⟩
theorem set4_rt {b : Nat} (k : Bk w5 b t1 #[u0, u1, u2, u3]) (hb : Below wr.heap.size wr w5) (hw : wr.heap.size ≤ b) :
    ∀ W, W = ((((w5.setCell ⟨b, 0, none⟩ a0).setCell ⟨b, 1, none⟩ a1).setCell ⟨b, 2, none⟩ a2).setCell ⟨b, 3, none⟩ a3) → Bk W b t1 #[a0, a1, a2, a3] ∧ Below wr.heap.size wr W ∧ W.heap.size = w5.heap.size ∧ (∀ g t cs, Bk w5 g t cs → g ≠ b → Bk W g t cs) ∧ ∀ (e : TypeId) (sz n : Nat) (v : Value) (xs : List Value), e ≠ t1 → Rt w5 e sz v n xs → Rt W e sz v n xs := by
  rintro W rfl
  refine ⟨(((k.set 0 a0).set 1 a1).set 2 a2).set 3 a3, (((hb.setCell (p := ⟨b, 0, none⟩) hw _).setCell (p := ⟨b, 1, none⟩) hw _).setCell (p := ⟨b, 2, none⟩) hw _).setCell (p := ⟨b, 3, none⟩) hw _, by simp [World.setCell], fun g t cs h hn => (((h.far (p := ⟨b, 0, none⟩) hn _).far (p := ⟨b, 1, none⟩) hn _).far (p := ⟨b, 2, none⟩) hn _).far (p := ⟨b, 3, none⟩) hn _, fun e sz n v xs he h => ?_⟩
  exact h.keep (grown_set (grown_set (grown_set (grown_set (grown_refl w5 (some b)) 0 a0) 1 a1) 2 a2) 3 a3) (k.row he)
theorem set3_rt {b : Nat} (k : Bk w5 b t2 #[z0, z1, z2]) (hb : Below wr.heap.size wr w5) (hw : wr.heap.size ≤ b) :
    ∀ W, W = (((w5.setCell ⟨b, 0, none⟩ d0).setCell ⟨b, 1, none⟩ d1).setCell ⟨b, 2, none⟩ d2) → Bk W b t2 #[d0, d1, d2] ∧ Below wr.heap.size wr W ∧ W.heap.size = w5.heap.size ∧ (∀ g t cs, Bk w5 g t cs → g ≠ b → Bk W g t cs) ∧ ∀ (e : TypeId) (sz n : Nat) (v : Value) (xs : List Value), e ≠ t2 → Rt w5 e sz v n xs → Rt W e sz v n xs := by
  rintro W rfl
  refine ⟨((k.set 0 d0).set 1 d1).set 2 d2, ((hb.setCell (p := ⟨b, 0, none⟩) hw _).setCell (p := ⟨b, 1, none⟩) hw _).setCell (p := ⟨b, 2, none⟩) hw _, by simp [World.setCell], fun g t cs h hn => ((h.far (p := ⟨b, 0, none⟩) hn _).far (p := ⟨b, 1, none⟩) hn _).far (p := ⟨b, 2, none⟩) hn _, fun e sz n v xs he h => ?_⟩
  exact h.keep (grown_set (grown_set (grown_set (grown_refl w5 (some b)) 0 d0) 1 d1) 2 d2) (k.row he)
theorem two3 {b : Nat} (k : Bk w5 b t1 #[u0, u1, u2, u3]) (hb : Below wr.heap.size wr w5) (hw : wr.heap.size ≤ b) : Two wr w5 (((((w5.setCell ⟨b, 0, none⟩ a0).setCell ⟨b, 1, none⟩ a1).setCell ⟨b, 2, none⟩ a2).setCell ⟨b, 3, none⟩ a3).alloc (.cells #[d0, d1, d2] t2)) (.pointer (some ⟨b, 0, none⟩)) (.pointer (some ⟨w5.heap.size, 0, none⟩)) t1 t2 #[a0, a1, a2, a3] #[d0, d1, d2] := by
  obtain ⟨h1, h2, h3, _, h4⟩ := set4_rt (a0 := a0) (a1 := a1) (a2 := a2) (a3 := a3) k hb hw _ rfl
  generalize World.setCell _ _ _ = W at h1 h2 h3 h4 ⊢
  have hl := k.lt
  refine ⟨_, W.heap.size, rfl, by rw [h3], h1.alloc _, Bk.new W _ _, by omega, hw, by omega, h2.alloc h2.size _, fun e sz n v xs e1 _ h => (h4 e sz n v xs e1 h).next (Below.alloc (Below.refl _ _) (Nat.le_refl _) _)⟩
theorem two5 {b : Nat} (k : Bk w5 b t2 #[z0, z1, z2]) (hb : Below wr.heap.size wr w5) (hw : wr.heap.size ≤ b) : Two wr w5 ((((w5.setCell ⟨b, 0, none⟩ d0).setCell ⟨b, 1, none⟩ d1).setCell ⟨b, 2, none⟩ d2).alloc (.cells #[a0, a1, a2, a3] t1)) (.pointer (some ⟨w5.heap.size, 0, none⟩)) (.pointer (some ⟨b, 0, none⟩)) t1 t2 #[a0, a1, a2, a3] #[d0, d1, d2] := by
  obtain ⟨h1, h2, h3, _, h4⟩ := set3_rt (d0 := d0) (d1 := d1) (d2 := d2) k hb hw _ rfl
  generalize World.setCell _ _ _ = W at h1 h2 h3 h4 ⊢
  have hl := k.lt
  refine ⟨W.heap.size, _, by rw [h3], rfl, Bk.new W _ _, h1.alloc _, by omega, by omega, hw, h2.alloc h2.size _, fun e sz n v xs _ e2 h => (h4 e sz n v xs e2 h).next (Below.alloc (Below.refl _ _) (Nat.le_refl _) _)⟩
theorem two4 {b b' : Nat} (k : Bk w5 b t1 #[u0, u1, u2, u3]) (k' : Bk w5 b' t2 #[z0, z1, z2]) (hne : b ≠ b') (hb : Below wr.heap.size wr w5) (hw : wr.heap.size ≤ b) (hw' : wr.heap.size ≤ b') :
    Two wr w5 (((((((w5.setCell ⟨b, 0, none⟩ a0).setCell ⟨b, 1, none⟩ a1).setCell ⟨b, 2, none⟩ a2).setCell ⟨b, 3, none⟩ a3).setCell ⟨b', 0, none⟩ d0).setCell ⟨b', 1, none⟩ d1).setCell ⟨b', 2, none⟩ d2) (.pointer (some ⟨b, 0, none⟩)) (.pointer (some ⟨b', 0, none⟩)) t1 t2 #[a0, a1, a2, a3] #[d0, d1, d2] := by
  obtain ⟨h1, h2, h3, h5, h4⟩ := set4_rt (a0 := a0) (a1 := a1) (a2 := a2) (a3 := a3) k hb hw _ rfl
  have k1 := h5 _ _ _ k' hne.symm
  generalize ((((w5.setCell ⟨b, 0, none⟩ a0).setCell ⟨b, 1, none⟩ a1).setCell ⟨b, 2, none⟩ a2).setCell ⟨b, 3, none⟩ a3) = W at h1 h2 h3 h4 k1 ⊢
  obtain ⟨g1, g2, g3, g5, g4⟩ := set3_rt (d0 := d0) (d1 := d1) (d2 := d2) k1 h2 hw' _ rfl
  exact ⟨_, _, rfl, rfl, g5 _ _ _ h1 hne, g1, hne, hw, hw', g2, fun e sz n v xs e1 e2 h => g4 e sz n v xs e2 (h4 e sz n v xs e1 h)⟩
end
end Go.Proofs.YtffngggdelmkpaaGreatDoor
