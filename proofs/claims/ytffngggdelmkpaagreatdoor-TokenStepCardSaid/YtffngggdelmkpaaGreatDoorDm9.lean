/- Delimiters in memory; slices.Clone of them. -/
import Derived.Test.YtffngggdelmkpaaGreatDoorMo9
import Derived.Test.YtffngggdelmkpaaGreatDoorLa9
namespace Go.Proofs.YtffngggdelmkpaaGreatDoor
open Go.RowKit
set_option linter.unusedVariables false
set_option linter.unusedSimpArgs false
set_option maxRecDepth 100000
def dcl (d : Dl) : List Value := [.string ⟨d.1.toArray⟩, .bool d.2]
def dcls (L : List Dl) : List Value := L.flatMap dcl
theorem dcls_len (L : List Dl) : (dcls L).length = L.length * 2 := by
  induction L with
  | nil => rfl
  | cons x r ih => simp [dcls, dcl] at ih ⊢; omega
theorem dcls_app (L M : List Dl) : dcls (L ++ M) = dcls L ++ dcls M := by simp [dcls]
theorem dcls_cons (d : Dl) (r : List Dl) : dcls (d :: r) = .string ⟨d.1.toArray⟩ :: .bool d.2 :: dcls r := rfl
theorem one_dcls (L : List Dl) : ∀ u ∈ dcls L, u.oneCell' = true := by
  intro u hu
  obtain ⟨d, _, hd⟩ := List.mem_flatMap.1 hu
  simp [dcl] at hd
  rcases hd with rfl | rfl <;> rfl
theorem Tryz.infoDelim : (Tryz.prog.info? 75).map (fun i => (i.zero, i.size, i.bytes)) = some (some (.agg #[.string ⟨#[]⟩, .bool false]), 2, 24) := by kernel_rfl
theorem Rd.form {w : World} {B sz n : Nat} {v : Value} {xs : List Value} (h : Rd w B sz v n xs) : ∃ A c, v = .slice A n c ∧ n ≤ c ∧ c ≤ maxLen ∧ (A = none → c = 0) := by
  obtain ⟨_, A, c, h2, h3, h4, h5, _⟩ := h
  exact ⟨A, c, h2, h3, h4, h5⟩
/-- The first delimiter of a row. -/
theorem rd_first {w : World} {B n c : Nat} {A : Option Addr} {d : Dl} {r : List Dl} (h : Rd w B 2 (.slice A n c) n (dcls (d :: r))) (hn : n = r.length + 1) :
    ∃ g o, A = some ⟨g, o, none⟩ ∧ g < B ∧ n ≤ c ∧ c ≤ maxLen ∧ w.cell? ⟨g, o, none⟩ = some (.string ⟨d.1.toArray⟩) ∧ w.cell? ⟨g, o + 1, none⟩ = some (.bool d.2) := by
  obtain ⟨_, A', c', h2, h3, h4, h5, h6⟩ := h
  cases h2
  obtain ⟨g, o, rfl, hg, hc⟩ := h6 (by omega)
  exact ⟨g, o, rfl, hg, h3, h4, hc 0 _ rfl, hc 1 _ rfl⟩
/-- The row behind the first one. -/
theorem rd_tail {w : World} {B n c : Nat} {g o : Nat} {d : Dl} {r : List Dl} (h : Rd w B 2 (.slice (some ⟨g, o, none⟩) n c) n (dcls (d :: r))) (hn : n = r.length + 1) :
    Rd w B 2 (.slice (some ⟨g, o + 2, none⟩) (n - 1) (c - 1)) r.length (dcls r) := by
  obtain ⟨_, A', c', h2, h3, h4, h5, h6⟩ := h
  cases h2
  obtain ⟨g', o', e, hg, hc⟩ := h6 (by omega)
  cases e
  refine ⟨by rw [dcls_len], some ⟨g, o + 2, none⟩, c - 1, by rw [show n - 1 = r.length by omega], by omega, by omega, (fun h => by cases h), fun _ => ⟨g, o + 2, rfl, hg, fun j u hj => ?_⟩⟩
  rw [show o + 2 + j = o + (j + 2) by omega]
  exact hc (j + 2) u hj
set_option maxHeartbeats 1000000 in
theorem clone9_m (L : List Dl) (A : Option Addr) (n c : Nat) (w : World) (hn : n = L.length) (h : Rd w w.heap.size 2 (.slice A n c) n (dcls L)) (hl : n ≤ 100000) :
    Calls Tryz.prog 61 #[.slice A n c] w fun e w' => ∃ v, e = .returned v ∧ w'.ownsRow w.heap.size 75 2 v n (dcls L) ∧ Below w.heap.size w w' := by
  have hnil := fun (W : World) => Lib.run_eql_slice_nil (P := Tryz.prog) W
  cases A with
  | none =>
    obtain ⟨h1, A', c', h2, h3, h4, h5, h6⟩ := h
    cases h2
    have hc := h5 rfl
    subst hc
    obtain rfl : n = 0 := by omega
    obtain rfl : L = [] := List.eq_nil_of_length_eq_zero hn.symm
    clear h1 h4 h5 h6 h3 hn hl
    go_enter Tryz.func61, Tryz.ntmps61
    go_wp2
    go_ret
    exact ⟨_, rfl, ⟨rfl, .inl ⟨rfl, rfl⟩⟩, Below.refl _ _⟩
  | some A =>
    obtain ⟨i0, hi, hz0, hz1, hz2⟩ := info_parts Tryz.infoDelim
    have H := Lib.hid h
    clear h
    go_enter Tryz.func61, Tryz.ntmps61
    go_wp2_with (first
      | (at_builtin
         refine wpList_append_rd rfl (.tmp 5) (.tmp 6) 24 rfl w.heap.size 75 i0 _ 2 24 Tryz.underlying24 hi hz0 hz1 hz2 rfl (by decide) (.slice (some ⟨w.heap.size, 0, none⟩) 0 0) 0 [] rfl (World.ownsRow_made _ _ _ (Nat.le_refl _) (by unfold maxLen; omega) (by simp)) (.slice (some A) n c) n w.heap.size (dcls L) rfl (H.out.keep (by go_grown) (Nat.le_refl _)) (one_dcls L) (by unfold maxLen; omega) (by omega) (by simp) ?_
         intro v1 w1 hown1 hg1 hv1))
    go_ret
    exact ⟨v1, rfl, by simpa using hown1, ((Below.refl _ _).alloc (Nat.le_refl _) _).grown hg1 (by simp) (by intro k hk; simp [Value.ownBlock] at hk; omega)⟩
end Go.Proofs.YtffngggdelmkpaaGreatDoor
