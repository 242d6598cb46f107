/- Plain facts on pieces: how many there are at most, and how long their texts are at most. -/
import Derived.Test.YtjkiapgboljabaaPl8
namespace Go.Proofs.Ytjkiapgboljabaa
set_option linter.unusedVariables false
set_option linter.unusedSimpArgs false
set_option maxRecDepth 100000
def ne01 (b : List UInt8) : Nat := if b = [] then 0 else 1
theorem ne01_le (b : List UInt8) : ne01 b ≤ 1 := by unfold ne01; split <;> omega
theorem flP_len (b : List UInt8) : (flP b).length = ne01 b := by unfold flP ne01; split <;> rfl
theorem flQ_len (b : List UInt8) : (flQ b).length = ne01 b := by unfold flQ ne01; split <;> rfl
theorem dbl_len {l : List UInt8} {L : List Prt} (hL : PL l L) (e : Nat) : ∀ (m x : Nat) (here : List UInt8) (ex : Bool), (dblF l L e m x here ex).length ≤ 2 * (e - x) + 1 + ne01 here
  | 0, _, _, _ => by simp [dblF]
  | m + 1, x, here, ex => by
    unfold dblF
    by_cases hx : x < e
    · rw [if_pos hx]
      cases hf : findP L x with
      | none =>
        have h1 := dbl_len hL e m (x + 1) (here ++ [l.getD x 0]) ex
        have h2 := ne01_le (here ++ [l.getD x 0])
        simp only
        omega
      | some q =>
        obtain ⟨_, hfr, hto, hlt, hle, _⟩ := findP_some hL hf
        simp only
        split
        · have h1 := dbl_len hL e m (x + 1) (here ++ [l.getD x 0]) ex
          have h2 := ne01_le (here ++ [l.getD x 0])
          omega
        · split
          · have h1 := dbl_len hL e m (toN q) (here ++ escT l q x) ex
            have h2 := ne01_le (here ++ escT l q x)
            omega
          · have h1 := dbl_len hL e m (toN q) [] true
            rw [List.length_append, List.length_cons, flQ_len]
            simp only [ne01, if_true] at h1 ⊢
            omega
    · rw [if_neg hx]
      split
      · simp
      · simp only [List.length_cons, List.length_nil]; omega
theorem pcsF_len {l : List UInt8} {L : List Prt} (hL : PL l L) : ∀ (m x : Nat) (buf : List UInt8), (pcsF l L m x buf).length ≤ 2 * (l.length - x) + ne01 buf
  | 0, _, buf => by simp [pcsF, flP_len]
  | m + 1, x, buf => by
    unfold pcsF
    by_cases hx : x < l.length
    · rw [if_pos hx]
      have hn : ∀ y, (pcsF l L m y []).length ≤ 2 * (l.length - y) := fun y => by have := pcsF_len hL m y []; simpa [ne01] using this
      cases hf : findP L x with
      | none =>
        have h1 := pcsF_len hL m (x + 1) (buf ++ [l.getD x 0])
        have h2 := ne01_le (buf ++ [l.getD x 0])
        simp only
        omega
      | some q =>
        obtain ⟨_, hfr, hto, hlt, hle, h2, _⟩ := findP_some hL hf
        have h3 := hn (toN q)
        simp only
        split
        · have h1 := pcsF_len hL m (toN q) (buf ++ sub l x (toN q))
          have h2 := ne01_le (buf ++ sub l x (toN q))
          omega
        · split
          · split
            · have h1 := pcsF_len hL m (toN q) buf
              omega
            · rw [List.length_append, List.length_cons, flP_len]; omega
          · split
            · rw [List.length_append, List.length_cons, flP_len]; omega
            · split
              · rename_i h5
                have h4 := dbl_len hL (endQ q) (l.length + 1) (x + 1) [] false
                have h6 : endQ q ≤ toN q := by unfold endQ; split <;> omega
                simp only [ne01, if_true] at h4
                rw [List.length_append, List.length_append, flP_len]
                omega
              · rw [List.length_append, List.length_cons, flP_len]; omega
    · rw [if_neg hx, flP_len]; omega
theorem pcsL_len (l : List UInt8) : (pcsL l).length ≤ 2 * l.length := by
  have := pcsF_len (pl_parts l) (l.length + 1) 0 []
  simpa [ne01, pcsL] using this
theorem sub_le (l : List UInt8) (a b : Nat) : (sub l a b).length ≤ b - a := by unfold sub; simp; omega
theorem escT_le {l : List UInt8} {q : Prt} {x : Nat} (h : x < toN q) (h2 : toN q ≤ x + 2 ∨ True) : (escT l q x).length ≤ toN q - x := by
  unfold escT
  split
  · simp
  · split
    · simp; omega
    · split
      · simp
      · exact sub_le _ _ _
theorem flP_tx {b : List UInt8} {N : Nat} (h : b.length ≤ N) : ∀ p ∈ flP b, p.tx.length ≤ N := by
  intro p hp
  unfold flP at hp
  split at hp
  · cases hp
  · simp at hp; subst hp; exact h
theorem flQ_tx {b : List UInt8} {N : Nat} (h : b.length ≤ N) : ∀ p ∈ flQ b, p.tx.length ≤ N := by
  intro p hp
  unfold flQ at hp
  split at hp
  · cases hp
  · simp at hp; subst hp; exact h
theorem dbl_tx {l : List UInt8} {L : List Prt} (hL : PL l L) (e : Nat) (he : e ≤ l.length) : ∀ (m x : Nat) (here : List UInt8) (ex : Bool), here.length ≤ x → x ≤ l.length → ∀ p ∈ dblF l L e m x here ex, p.tx.length ≤ l.length
  | 0, _, _, _, _, _ => by intro p hp; cases hp
  | m + 1, x, here, ex, hh, hxl => by
    unfold dblF
    by_cases hx : x < e
    · rw [if_pos hx]
      cases hf : findP L x with
      | none => exact dbl_tx hL e he m (x + 1) _ ex (by simp; omega) (by omega)
      | some q =>
        obtain ⟨_, hfr, hto, hlt, hle, _⟩ := findP_some hL hf
        simp only
        split
        · exact dbl_tx hL e he m (x + 1) _ ex (by simp; omega) (by omega)
        · split
          · exact dbl_tx hL e he m (toN q) _ ex (by have := escT_le (l := l) hlt (.inr trivial); simp; omega) hle
          · intro p hp
            rcases List.mem_append.1 hp with hp | hp
            · exact flQ_tx (by omega) p hp
            · rcases List.mem_cons.1 hp with rfl | hp
              · have := sub_le l x (toN q); simp only; omega
              · exact dbl_tx hL e he m (toN q) [] true (by simp) hle p hp
    · rw [if_neg hx]
      split
      · intro p hp; cases hp
      · intro p hp
        simp at hp
        subst hp
        simp only
        omega
theorem pcsF_tx {l : List UInt8} {L : List Prt} (hL : PL l L) : ∀ (m x : Nat) (buf : List UInt8), buf.length ≤ x → x ≤ l.length → ∀ p ∈ pcsF l L m x buf, p.tx.length ≤ l.length
  | 0, _, buf, h, hx => flP_tx (by omega)
  | m + 1, x, buf, h, hxl => by
    unfold pcsF
    by_cases hx : x < l.length
    · rw [if_pos hx]
      cases hf : findP L x with
      | none => exact pcsF_tx hL m (x + 1) _ (by simp; omega) (by omega)
      | some q =>
        obtain ⟨_, hfr, hto, hlt, hle, h2, _⟩ := findP_some hL hf
        have hn := pcsF_tx hL m (toN q) [] (by simp) hle
        have hone : ∀ (y : Pc), y.tx.length ≤ l.length → ∀ p ∈ flP buf ++ y :: pcsF l L m (toN q) [], p.tx.length ≤ l.length := by
          intro y hy p hp
          rcases List.mem_append.1 hp with hp | hp
          · exact flP_tx (by omega) p hp
          · rcases List.mem_cons.1 hp with rfl | hp
            · exact hy
            · exact hn p hp
        have hend : endQ q ≤ toN q := by unfold endQ; split <;> omega
        simp only
        split
        · exact pcsF_tx hL m (toN q) _ (by have := sub_le l x (toN q); simp; omega) hle
        · split
          · split
            · exact pcsF_tx hL m (toN q) buf (by omega) hle
            · exact hone _ (by have := sub_le l (x + 1) (toN q); simp only; omega)
          · split
            · exact hone _ (by have := sub_le l (x + 1) (endQ q); simp only; omega)
            · split
              · intro p hp
                rcases List.mem_append.1 hp with hp | hp
                · exact flP_tx (by omega) p hp
                · rcases List.mem_append.1 hp with hp | hp
                  · exact dbl_tx hL (endQ q) (by omega) _ (x + 1) [] false (by simp) (by omega) p hp
                  · exact hn p hp
              · exact hone _ (by have := sub_le l x (toN q); simp only; omega)
    · rw [if_neg hx]
      exact flP_tx (by omega)
theorem pcsL_tx (l : List UInt8) : ∀ p ∈ pcsL l, p.tx.length ≤ l.length := pcsF_tx (pl_parts l) (l.length + 1) 0 [] (by simp) (by omega)
end Go.Proofs.Ytjkiapgboljabaa
