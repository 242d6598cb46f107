/- quillwortref04.Assign: the place that it tells, in every world the same. -/
import Derived.Test.YtlbfdbinaekjoaaGreatDoorRh13
namespace Go.Proofs.YtlbfdbinaekjoaaGreatDoor
open Go.RowKit
set_option linter.unusedVariables false
set_option linter.unusedSimpArgs false
set_option maxRecDepth 100000
/-- Where a text's first = stands behind a name; 0: nowhere. -/
def AsgM (l : List UInt8) (k : Nat) : Prop := (k = 0 ∧ ∀ j, 1 ≤ j → j < l.length → asgN l j = false) ∨ (1 ≤ k ∧ k < l.length ∧ asgN l k = true ∧ ∀ j, 1 ≤ j → j < k → asgN l j = false)
theorem AsgM.yes {l : List UInt8} {k0 k : Nat} (h : AsgM l k0) (h1 : 1 ≤ k) (h2 : k < l.length) (h3 : asgN l k = true) (h4 : ∀ j, 1 ≤ j → j < k → asgN l j = false) : k0 = k := by
  rcases h with ⟨rfl, h⟩ | ⟨a, b, c, d⟩
  · rw [h k h1 h2] at h3; cases h3
  · rcases Nat.lt_or_ge k k0 with h5 | h5
    · rw [d k h1 h5] at h3; cases h3
    · rcases Nat.lt_or_ge k0 k with h6 | h6
      · rw [h4 k0 a h6] at c; cases c
      · omega
theorem AsgM.no {l : List UInt8} {k0 : Nat} (h : AsgM l k0) (h1 : ∀ j, 1 ≤ j → j < l.length → asgN l j = false) : k0 = 0 := by
  rcases h with ⟨rfl, h⟩ | ⟨a, b, c, d⟩
  · rfl
  · rw [h1 k0 a b] at c; cases c
theorem asgM_ex (l : List UInt8) : ∃ k, AsgM l k := by
  have key : ∀ n, n ≤ l.length → (∀ j, 1 ≤ j → j < n → asgN l j = false) ∨ ∃ k, 1 ≤ k ∧ k < n ∧ asgN l k = true ∧ ∀ j, 1 ≤ j → j < k → asgN l j = false := by
    intro n
    induction n with
    | zero => intro _; exact .inl fun j _ h => by omega
    | succ n ih =>
      intro hn
      rcases ih (by omega) with h | ⟨k, a, b, c, d⟩
      · cases hc : asgN l n
        · refine .inl fun j h1 h2 => ?_
          rcases Nat.lt_or_ge j n with h3 | h3
          · exact h j h1 h3
          · obtain rfl : j = n := by omega
            exact hc
        · by_cases h1 : 1 ≤ n
          · exact .inr ⟨n, h1, by omega, hc, h⟩
          · exact .inl fun j h2 h3 => by omega
      · exact .inr ⟨k, a, by omega, c, d⟩
  rcases key l.length (Nat.le_refl _) with h | ⟨k, a, b, c, d⟩
  · exact ⟨0, .inl ⟨rfl, h⟩⟩
  · exact ⟨k, .inr ⟨a, b, c, d⟩⟩
theorem AsgM.t {l : List UInt8} {k : Nat} (h : AsgM l k) : decide ((0 : Int) < (k : Int)) = asgT l := by
  rcases h with ⟨rfl, h⟩ | ⟨a, b, c, d⟩
  · rw [asg_no h]; rfl
  · rw [asg_at a b c]; exact decide_eq_true (by omega)
set_option maxHeartbeats 2000000 in
theorem rassign_w (l : List UInt8) (k0 : Nat) (hM : AsgM l k0) (w : World) (hl : l.length ≤ 100000) : Calls Tryz.prog 21 #[.string ⟨l.toArray⟩] w fun e w' => e = .returned (.int .i64 (k0 : Int)) ∧ w' = w := by
  have HM := Lib.hid hM
  clear hM
  go_enter Tryz.func21, Tryz.ntmps21
  go_wp2
  go_loopw [3] (fun i wr => ∃ k : Nat, 1 ≤ k ∧ i = .int .i64 k ∧ wr = w ∧ ∀ j, 1 ≤ j → j < k → j < l.length → asgN l j = false) (fun i _ => l.length + 1 - (intOf i).toNat)
  case atStart => exact ⟨1, Nat.le_refl _, rfl, rfl, fun j h1 h2 => by omega⟩
  case round =>
    obtain ⟨k, hk, rfl, rfl, hI⟩ := hrel
    have u2 : (0 : Int) ≤ (k : Int) := by omega
    by_cases hlt : k < l.length
    · have u1 : (k : Int) < (l.length : Int) := by omega
      obtain ⟨d, hd⟩ : ∃ d, l[k]? = some d := ⟨_, List.getElem?_eq_getElem hlt⟩
      obtain ⟨g1, g2⟩ := List.getElem?_eq_some_iff.1 hd
      have g3 : (ByteArray.mk l.toArray)[k]'(show k < l.length from g1) = d := g2
      have he : (ByteArray.mk l.toArray).extract 0 k = ⟨(l.take k).toArray⟩ := by rw [ba_extract]; rfl
      have hn : asgN l k = (decide (d = 61) && isNameL (l.take k)) := by
        unfold asgN
        rw [hd]
        by_cases h : d = 61
        · subst h; simp
        · rw [decide_eq_false h]; simp [h]
      by_cases h61 : d = 61
      · have t1 : ((d.toNat : Int) == 61) = true := by rw [h61]; rfl
        obtain ⟨b, hb⟩ : ∃ b, b = isNameL (l.take k) := ⟨_, rfl⟩
        have hb2 : asgN l k = b := by rw [hn, decide_eq_true h61, hb]; rfl
        have c1 : ∀ W, Calls Tryz.prog 29 #[.string ⟨(l.take k).toArray⟩] W fun e w' => e = .returned (.bool b) ∧ W = w' := fun W => by rw [hb]; exact isName_r _ W (by simp; omega)
        have HX := Lib.hid (And.intro hI (And.intro he (And.intro hb2 c1)))
        clear hI he hb2 c1 hb hn g2 hd h61
        cases b with
        | true =>
          go_wp2_with (
            (go_at_call 29
             first | rw [HX.out.2.1] | skip
             refine (HX.out.2.2.2 _).mono ?_
             rintro e w' ⟨rfl, rfl⟩))
          go_ret
          exact ⟨by rw [HM.out.yes hk hlt HX.out.2.2.1 (fun j h1 h2 => HX.out.1 j h1 h2 (by omega))]; rfl, rfl⟩
        | false =>
          go_wp2_with (
            (go_at_call 29
             first | rw [HX.out.2.1] | skip
             refine (HX.out.2.2.2 _).mono ?_
             rintro e w' ⟨rfl, rfl⟩))
          exact ⟨⟨k + 1, by omega, by go_num, trivial, fun j h1 h2 h3 => by
            rcases Nat.lt_or_ge j k with h4 | h4
            · exact HX.out.1 j h1 h4 h3
            · obtain rfl : j = k := by omega
              exact HX.out.2.2.1⟩, by simp [intOf] <;> omega⟩
      · have t1 : ((d.toNat : Int) == 61) = false := beq_false_of_ne (fun h => h61 (UInt8.toNat_inj.1 (by show d.toNat = 61; omega)))
        rw [decide_eq_false h61, Bool.false_and] at hn
        have HX := Lib.hid (And.intro hI hn)
        clear hI he hn g2 hd h61
        go_wp2
        exact ⟨⟨k + 1, by omega, by go_num, trivial, fun j h1 h2 h3 => by
          rcases Nat.lt_or_ge j k with h4 | h4
          · exact HX.out.1 j h1 h4 h3
          · obtain rfl : j = k := by omega
            exact HX.out.2⟩, by simp [intOf] <;> omega⟩
    · have u1 : ¬ (k : Int) < (l.length : Int) := by omega
      have HX := Lib.hid hI
      clear hI
      go_wp2
      go_ret
      exact ⟨by rw [HM.out.no (fun j h1 h2 => HX.out j h1 (by omega) h2)]; rfl, rfl⟩
theorem rassign_k (l : List UInt8) (hl : l.length ≤ 100000) : ∃ k : Nat, decide ((0 : Int) < (k : Int)) = asgT l ∧ ∀ w, Calls Tryz.prog 21 #[.string ⟨l.toArray⟩] w fun e w' => e = .returned (.int .i64 (k : Int)) ∧ w' = w := by
  obtain ⟨k, h⟩ := asgM_ex l
  exact ⟨k, h.t, fun w => rassign_w l k h w hl⟩
end Go.Proofs.YtlbfdbinaekjoaaGreatDoor
