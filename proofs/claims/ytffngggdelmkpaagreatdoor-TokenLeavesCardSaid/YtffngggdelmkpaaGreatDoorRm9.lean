/- quillwortref09.Step is stepL: the cases joined. -/
import Derived.Test.YtffngggdelmkpaaGreatDoorRq9
namespace Go.Proofs.YtffngggdelmkpaaGreatDoor
open Go.RowKit
set_option linter.unusedVariables false
set_option linter.unusedSimpArgs false
set_option maxRecDepth 100000
theorem opN_of (d : List UInt8) : ∀ n, (opN d n).2 ≠ 0 → opOf (d.take (opN d n).2) = (opN d n).1
  | 0, h => absurd rfl h
  | n + 1, h => by
    unfold opN at h ⊢
    split
    · rfl
    · rename_i h2
      rw [if_neg h2] at h
      exact opN_of d n h
theorem opOf_at (l : List UInt8) (x : Nat) (hx : x ≤ l.length) (h : 0 < (opAt l x).2) : opOf (sub l x (x + (opAt l x).2)) = (opAt l x).1 := by
  rw [sub_take' l x _ hx]
  unfold opAt at h ⊢
  split at h
  · simp at h
  · rename_i hc
    rw [if_neg hc]
    exact opN_of _ _ (by omega)
/-- The reference's step is stepL. -/
theorem rstep_all (l : List UInt8) (x : Nat) (X : Lx) (hl : l.length ≤ 900) (hx : x < l.length) (hinv : X.bd = true → X.pd ≠ []) : StepR l x X (stepL l x X).1 (stepL l x X).2 := by
  by_cases hb : X.bd = true
  · obtain ⟨d, r, hX⟩ : ∃ d r, X.pd = d :: r := by
      cases h : X.pd with
      | nil => exact absurd h (hinv hb)
      | cons d r => exact ⟨d, r, rfl⟩
    have hs : stepL l x X = docL l x X d r := by unfold stepL; rw [hb, hX]
    rw [hs]
    unfold docL
    cases hok : (hereL l x d.1 d.2).2
    · exact rstep_doc0 l x X hl hx hb d r hX hok
    · exact rstep_doc1 l x X hl hx hb d r hX hok
  · have hb : X.bd = false := by simpa using hb
    have hs : stepL l x X = (plainL l x, behindL (sub l x (plainL l x).to) (plainL l x).kd X) := by unfold stepL; rw [hb]
    rw [hs]
    by_cases hbl : x < blankL l x
    · have hp : plainL l x = ⟨1, x, blankL l x, false⟩ := by unfold plainL; rw [if_pos ((blankL_gt l x hx).1 hbl)]
      rw [hp]
      have : behindL (sub l x (blankL l x)) 1 X = X := by obtain ⟨a, p, b⟩ := X; obtain rfl : b = false := hb; rfl
      show StepR l x X _ (behindL (sub l x (blankL l x)) 1 X)
      rw [this]
      exact rstep_blank l x X hl hx hb hbl
    · have hnb : blankL l x = x := by have := (blankL_le l _ x rfl (by omega)).1; omega
      have hnb2 : ¬ (blankB (l.getD x 0) = true ∨ contB l x = true) := fun h => hbl ((blankL_gt l x hx).2 h)
      by_cases h10 : (l.getD x 0).toNat = 10
      · have hp : plainL l x = ⟨2, x, x + 1, false⟩ := by unfold plainL; rw [if_neg hnb2, if_pos h10]
        rw [hp]
        exact rstep_nl l x X hl hx hb hnb h10
      · by_cases h35 : (l.getD x 0).toNat = 35
        · have hp : plainL l x = ⟨3, x, lineN l x, false⟩ := by unfold plainL; rw [if_neg hnb2, if_neg h10, if_pos h35]
          rw [hp]
          exact rstep_comment l x X hl hx hb hnb h35
        · by_cases hop : 0 < (opAt l x).2
          · have hp : plainL l x = ⟨4, x, x + (opAt l x).2, false⟩ := by unfold plainL; rw [if_neg hnb2, if_neg h10, if_neg h35, if_pos hop]
            rw [hp]
            have ho := opOf_at l x (by omega) hop
            show StepR l x X _ (behindL (sub l x (x + (opAt l x).2)) 4 X)
            by_cases h45 : (opAt l x).1 = 4 ∨ (opAt l x).1 = 5
            · have : behindL (sub l x (x + (opAt l x).2)) 4 X = ⟨((opAt l x).1 : Int), X.pd, false⟩ := by
                unfold behindL
                rw [if_neg (by decide), if_neg (by decide), if_pos rfl, ho, if_pos h45]
              rw [this]
              exact rstep_op45 l x X hl hx hb hnb h10 h35 hop h45
            · have : behindL (sub l x (x + (opAt l x).2)) 4 X = ⟨0, X.pd, false⟩ := by
                unfold behindL
                rw [if_neg (by decide), if_neg (by decide), if_pos rfl, ho, if_neg h45]
              rw [this]
              exact rstep_op l x X hl hx hb hnb h10 h35 hop ⟨fun h => h45 (.inl h), fun h => h45 (.inr h)⟩
          · have hop0 : (opAt l x).2 = 0 := by omega
            by_cases hn : numB l x = true
            · have hp : plainL l x = ⟨5, x, x + digN l x, false⟩ := by unfold plainL; rw [if_neg hnb2, if_neg h10, if_neg h35, if_neg hop, if_pos hn]
              rw [hp]
              exact rstep_num l x X hl hx hb hnb h10 h35 hop0 hn
            · have hp : plainL l x = ⟨6, x, x + endL l x, !shutB (sub l x (x + endL l x))⟩ := by unfold plainL; rw [if_neg hnb2, if_neg h10, if_neg h35, if_neg hop, if_neg hn]
              rw [hp]
              have hn : numB l x = false := by simpa using hn
              show StepR l x X _ (behindL (sub l x (x + endL l x)) 6 X)
              by_cases haw : X.aw = 0
              · have : behindL (sub l x (x + endL l x)) 6 X = ⟨0, X.pd, false⟩ := by
                  unfold behindL
                  rw [if_neg (by decide), if_neg (by decide), if_neg (by decide), if_pos rfl, if_neg (fun h => h haw)]
                rw [this]
                exact rstep_word0 l x X hl hx hb hnb h10 h35 hop0 hn haw
              · have : behindL (sub l x (x + endL l x)) 6 X = ⟨0, X.pd ++ [(txL (pcsL (sub l x (x + endL l x))), decide (X.aw = 5))], false⟩ := by
                  unfold behindL
                  rw [if_neg (by decide), if_neg (by decide), if_neg (by decide), if_pos rfl, if_pos haw]
                rw [this]
                exact rstep_word1 l x X hl hx hb hnb h10 h35 hop0 hn haw
end Go.Proofs.YtffngggdelmkpaaGreatDoor
