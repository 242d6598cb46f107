/- The name of a part's parameter, as the program and as the reference have it. -/
import Derived.Test.YtjkiapgboljabaaExp
import Derived.Test.YtjkiapgboljabaaRcls
import Derived.IntWalk
namespace Go.Proofs.Ytjkiapgboljabaa
open Go.RowKit
set_option linter.unusedVariables false
set_option linter.unusedSimpArgs false
set_option maxRecDepth 100000
def nameK (l : List UInt8) (f : Nat) : Nat := if l[f + 2]? = some 35 ∧ 0 < parL l (f + 3) then f + 3 else f + 2
def nameX (l : List UInt8) (m : Int) (f t : Nat) : List UInt8 :=
  if m = 12 then (l.take t).drop (f + 1)
  else if m = 7 ∨ m = 8 then (if l.length ≤ f + 2 then [] else (l.take (nameK l f + parL l (nameK l f))).drop (nameK l f))
  else []
theorem rparam_i (l : List UInt8) (z : Int) (w : World) (h0 : 0 ≤ z) (h1 : z ≤ l.length) (hl : l.length ≤ 100000) :
    Calls Try.prog 56 #[.string ⟨l.toArray⟩, .int .i64 z] w fun e w' => e = .returned (.int .i64 (parL l z.toNat : Int)) ∧ w = w' := by
  obtain ⟨i, rfl⟩ := Int.eq_ofNat_of_zero_le h0
  exact rparam_r l i w (by omega) hl
theorem parL_end (l : List UInt8) (i : Nat) (h : l.length ≤ i) : parL l i = 0 := by have := parL_le l i; omega
theorem mn_cases (m : Int) : ((m == 12) = true ∧ (m == 7) = false ∧ (m == 8) = false ∧ (m != 7) = true ∧ (m != 8) = true) ∨
    ((m == 12) = false ∧ (m == 7) = true ∧ (m == 8) = false ∧ (m != 7) = false ∧ (m != 8) = true) ∨
    ((m == 12) = false ∧ (m == 7) = false ∧ (m == 8) = true ∧ (m != 7) = true ∧ (m != 8) = false) ∨
    ((m == 12) = false ∧ (m == 7) = false ∧ (m == 8) = false ∧ (m != 7) = true ∧ (m != 8) = true) := by
  simp only [beq_iff_eq, beq_eq_false_iff_ne, ne_eq, bne_iff_ne, bne_eq_false_iff_eq]
  omega
theorem ret_ba {l : List UInt8} {a b : Nat} {m : List UInt8} (h : (l.take b).drop a = m) : Ending.returned (.string ((ByteArray.mk l.toArray).extract a b)) = .returned (.string ⟨m.toArray⟩) := by rw [ba_extract, h]
/-- The cases of a name. -/
theorem nameX_12 {l : List UInt8} {m : Int} {f t : Nat} (h : (m == 12) = true) : nameX l m f t = (l.take t).drop (f + 1) := by
  unfold nameX; rw [if_pos (by simpa using h)]
theorem nameX_no {l : List UInt8} {m : Int} {f t : Nat} (h : (m == 12) = false) (h7 : (m == 7) = false) (h8 : (m == 8) = false) : nameX l m f t = [] := by
  unfold nameX; rw [if_neg (by simpa using h), if_neg]
  simp at h7 h8
  omega
theorem nameX_78 {l : List UInt8} {m : Int} {f t : Nat} (h : (m == 12) = false) (h78 : m = 7 ∨ m = 8) : nameX l m f t = if l.length ≤ f + 2 then [] else (l.take (nameK l f + parL l (nameK l f))).drop (nameK l f) := by
  unfold nameX; rw [if_neg (by simpa using h), if_pos h78]
set_option maxHeartbeats 4000000 in
theorem name_c (l : List UInt8) (m u : Int) (f t : Nat) (o : Bool) (w : World) (hl : l.length ≤ 900) (hf : f < t) (ht : t ≤ l.length) :
    Calls Try.prog 59 #[.string ⟨l.toArray⟩, .agg #[.int .i64 m, .int .i64 (f : Int), .int .i64 (t : Int), .int .i64 u, .bool o]] w fun e w' => e = .returned (.string ⟨(nameX l m f t).toArray⟩) ∧ Below w.heap.size w w' := by
  rcases mn_cases m with ⟨t12, t7, t8, s7, s8⟩ | ⟨t12, t7, t8, s7, s8⟩ | ⟨t12, t7, t8, s7, s8⟩ | ⟨t12, t7, t8, s7, s8⟩
  rotate_left
  · have hX := nameX_78 (l := l) (f := f) (t := t) t12 (.inl (by simpa using t7))
    obtain ⟨X, hXX⟩ : ∃ X, X = nameX l m f t := ⟨_, rfl⟩
    rw [← hXX] at hX ⊢
    clear hXX
    by_cases hlen : l.length ≤ f + 2
    · rw [if_pos hlen] at hX
      subst hX
      have k1 : ¬ ((f : Int) + 2 < (l.length : Int)) := by omega
      have k2 : (l.length : Int) ≤ (f : Int) + 2 := by omega
      go_enter Try.func59, Try.ntmps59
      go_wp2_with (
        (go_at_call 48
         refine (param_i l _ _ (by omega) (by omega) (by omega)).mono ?_
         rintro e w' ⟨he, rfl⟩
         rw [parL_end l _ (by omega)] at he
         subst he))
      all_goals go_ret
      all_goals first
        | exact ⟨rfl, (Below.refl _ _).alloc (Nat.le_refl _) _⟩
        | exact ⟨ret_ba (by simp), (Below.refl _ _).alloc (Nat.le_refl _) _⟩
    · rw [if_neg hlen] at hX
      obtain ⟨b, hb⟩ : ∃ b, l[f + 2]? = some b := ⟨_, List.getElem?_eq_getElem (by omega)⟩
      obtain ⟨hb1, hb2⟩ := List.getElem?_eq_some_iff.1 hb
      have hL : ∃ h : f + 2 < (ByteArray.mk l.toArray).size, (ByteArray.mk l.toArray)[f + 2]'h = b := ⟨hb1, hb2⟩
      obtain ⟨hL1, hL2⟩ := hL
      have k1 : (f : Int) + 2 < (l.length : Int) := by omega
      have k2 : (0 : Int) ≤ (f : Int) + 2 := by omega
      have k3 : ((f : Int) + 2).toNat = f + 2 := by omega
      have k4 : ((f : Int) + 2 + 1).toNat = f + 3 := by omega
      have k5 : (0 : Int) ≤ (f : Int) + 2 + 1 := by omega
      obtain ⟨P, hP⟩ : ∃ P, P = parL l (f + 3) := ⟨_, rfl⟩
      have hPl := parL_le l (f + 3)
      rw [← hP] at hPl
      by_cases hK : b = 35 ∧ 0 < P
      · obtain ⟨rfl, hP0⟩ := hK
        have e : nameK l f = f + 3 := by unfold nameK; rw [if_pos ⟨hb, by rw [← hP]; exact hP0⟩]
        rw [e, ← hP] at hX
        have k6 : (f : Int) + 2 + 1 + (P : Int) ≤ (l.length : Int) := by omega
        have k7 : (0 : Int) ≤ (f : Int) + 2 + 1 + (P : Int) := by omega
        have k8 : ((f : Int) + 2 + 1 + (P : Int)).toNat = f + 3 + P := by omega
        have k9 : (f : Int) + 2 + 1 ≤ (l.length : Int) := by omega
        have k10 : (f : Int) + 2 + 1 ≤ (f : Int) + 2 + 1 + (P : Int) := by omega
        have HP := Lib.hid (And.intro hP hX)
        clear hP hX hb hb2 e
        have k4' := Lib.hid k4
        clear k4
        go_enter Try.func59, Try.ntmps59
        go_wp2_with (
          (go_at_call 48
           refine (param_i l _ _ (by omega) (by omega) (by omega)).mono ?_
           rintro e w' ⟨he, rfl⟩
           rw [k4'.out, ← HP.out.1] at he
           subst he))
        go_ret
        exact ⟨ret_ba HP.out.2.symm, (Below.refl _ _).alloc (Nat.le_refl _) _⟩
      · have e : nameK l f = f + 2 := by unfold nameK; rw [if_neg (fun h => hK ⟨by have h1 := h.1; rw [hb] at h1; exact Option.some.inj h1, by rw [hP]; exact h.2⟩)]
        obtain ⟨R, hR⟩ : ∃ R, R = parL l (f + 2) := ⟨_, rfl⟩
        have hRl := parL_le l (f + 2)
        rw [e, ← hR] at hX
        rw [← hR] at hRl
        have k6 : (f : Int) + 2 + (R : Int) ≤ (l.length : Int) := by omega
        have k7 : (0 : Int) ≤ (f : Int) + 2 + (R : Int) := by omega
        have k8 : ((f : Int) + 2 + (R : Int)).toNat = f + 2 + R := by omega
        have k9 : (f : Int) + 2 ≤ (l.length : Int) := by omega
        have k10 : (f : Int) + 2 ≤ (f : Int) + 2 + (R : Int) := by omega
        have k3' := Lib.hid k3
        have k4' := Lib.hid k4
        clear k4
        by_cases hb35 : b = 35
        · subst hb35
          have hP0 : P = 0 := Classical.byContradiction fun h => hK ⟨rfl, by omega⟩
          rw [hP0] at hP
          have HP := Lib.hid (And.intro hP (And.intro hR hX))
          clear hP hX hR hb hb2 e hK hP0 hPl
          go_enter Try.func59, Try.ntmps59
          go_wp2_with (
            (go_at_call 48
             refine (param_i l _ _ (by omega) (by omega) (by omega)).mono ?_
             rintro e w' ⟨he, rfl⟩
             first
               | rw [k4'.out, ← HP.out.1] at he
               | rw [k3'.out, ← HP.out.2.1] at he
             subst he))
          go_ret
          exact ⟨ret_ba HP.out.2.2.symm, (Below.refl _ _).alloc (Nat.le_refl _) _⟩
        · have t35 : ((b.toNat : Int) == 35) = false := by
            rw [beq_eq_false_iff_ne]
            intro h
            exact hb35 (UInt8.toNat_inj.1 (show b.toNat = (35 : UInt8).toNat by have : (35 : UInt8).toNat = 35 := rfl; omega))
          have HP := Lib.hid (And.intro hR hX)
          clear hP hX hR hb e hK hPl hb35
          go_enter Try.func59, Try.ntmps59
          go_wp2_with (
            (go_at_call 48
             refine (param_i l _ _ (by omega) (by omega) (by omega)).mono ?_
             rintro e w' ⟨he, rfl⟩
             rw [k3'.out, ← HP.out.1] at he
             subst he))
          go_ret
          exact ⟨ret_ba HP.out.2.symm, (Below.refl _ _).alloc (Nat.le_refl _) _⟩
  · have hX := nameX_78 (l := l) (f := f) (t := t) t12 (.inr (by simpa using t8))
    obtain ⟨X, hXX⟩ : ∃ X, X = nameX l m f t := ⟨_, rfl⟩
    rw [← hXX] at hX ⊢
    clear hXX
    by_cases hlen : l.length ≤ f + 2
    · rw [if_pos hlen] at hX
      subst hX
      have k1 : ¬ ((f : Int) + 2 < (l.length : Int)) := by omega
      have k2 : (l.length : Int) ≤ (f : Int) + 2 := by omega
      go_enter Try.func59, Try.ntmps59
      go_wp2_with (
        (go_at_call 48
         refine (param_i l _ _ (by omega) (by omega) (by omega)).mono ?_
         rintro e w' ⟨he, rfl⟩
         rw [parL_end l _ (by omega)] at he
         subst he))
      all_goals go_ret
      all_goals first
        | exact ⟨rfl, (Below.refl _ _).alloc (Nat.le_refl _) _⟩
        | exact ⟨ret_ba (by simp), (Below.refl _ _).alloc (Nat.le_refl _) _⟩
    · rw [if_neg hlen] at hX
      obtain ⟨b, hb⟩ : ∃ b, l[f + 2]? = some b := ⟨_, List.getElem?_eq_getElem (by omega)⟩
      obtain ⟨hb1, hb2⟩ := List.getElem?_eq_some_iff.1 hb
      have hL : ∃ h : f + 2 < (ByteArray.mk l.toArray).size, (ByteArray.mk l.toArray)[f + 2]'h = b := ⟨hb1, hb2⟩
      obtain ⟨hL1, hL2⟩ := hL
      have k1 : (f : Int) + 2 < (l.length : Int) := by omega
      have k2 : (0 : Int) ≤ (f : Int) + 2 := by omega
      have k3 : ((f : Int) + 2).toNat = f + 2 := by omega
      have k4 : ((f : Int) + 2 + 1).toNat = f + 3 := by omega
      have k5 : (0 : Int) ≤ (f : Int) + 2 + 1 := by omega
      obtain ⟨P, hP⟩ : ∃ P, P = parL l (f + 3) := ⟨_, rfl⟩
      have hPl := parL_le l (f + 3)
      rw [← hP] at hPl
      by_cases hK : b = 35 ∧ 0 < P
      · obtain ⟨rfl, hP0⟩ := hK
        have e : nameK l f = f + 3 := by unfold nameK; rw [if_pos ⟨hb, by rw [← hP]; exact hP0⟩]
        rw [e, ← hP] at hX
        have k6 : (f : Int) + 2 + 1 + (P : Int) ≤ (l.length : Int) := by omega
        have k7 : (0 : Int) ≤ (f : Int) + 2 + 1 + (P : Int) := by omega
        have k8 : ((f : Int) + 2 + 1 + (P : Int)).toNat = f + 3 + P := by omega
        have k9 : (f : Int) + 2 + 1 ≤ (l.length : Int) := by omega
        have k10 : (f : Int) + 2 + 1 ≤ (f : Int) + 2 + 1 + (P : Int) := by omega
        have HP := Lib.hid (And.intro hP hX)
        clear hP hX hb hb2 e
        have k4' := Lib.hid k4
        clear k4
        go_enter Try.func59, Try.ntmps59
        go_wp2_with (
          (go_at_call 48
           refine (param_i l _ _ (by omega) (by omega) (by omega)).mono ?_
           rintro e w' ⟨he, rfl⟩
           rw [k4'.out, ← HP.out.1] at he
           subst he))
        go_ret
        exact ⟨ret_ba HP.out.2.symm, (Below.refl _ _).alloc (Nat.le_refl _) _⟩
      · have e : nameK l f = f + 2 := by unfold nameK; rw [if_neg (fun h => hK ⟨by have h1 := h.1; rw [hb] at h1; exact Option.some.inj h1, by rw [hP]; exact h.2⟩)]
        obtain ⟨R, hR⟩ : ∃ R, R = parL l (f + 2) := ⟨_, rfl⟩
        have hRl := parL_le l (f + 2)
        rw [e, ← hR] at hX
        rw [← hR] at hRl
        have k6 : (f : Int) + 2 + (R : Int) ≤ (l.length : Int) := by omega
        have k7 : (0 : Int) ≤ (f : Int) + 2 + (R : Int) := by omega
        have k8 : ((f : Int) + 2 + (R : Int)).toNat = f + 2 + R := by omega
        have k9 : (f : Int) + 2 ≤ (l.length : Int) := by omega
        have k10 : (f : Int) + 2 ≤ (f : Int) + 2 + (R : Int) := by omega
        have k3' := Lib.hid k3
        have k4' := Lib.hid k4
        clear k4
        by_cases hb35 : b = 35
        · subst hb35
          have hP0 : P = 0 := Classical.byContradiction fun h => hK ⟨rfl, by omega⟩
          rw [hP0] at hP
          have HP := Lib.hid (And.intro hP (And.intro hR hX))
          clear hP hX hR hb hb2 e hK hP0 hPl
          go_enter Try.func59, Try.ntmps59
          go_wp2_with (
            (go_at_call 48
             refine (param_i l _ _ (by omega) (by omega) (by omega)).mono ?_
             rintro e w' ⟨he, rfl⟩
             first
               | rw [k4'.out, ← HP.out.1] at he
               | rw [k3'.out, ← HP.out.2.1] at he
             subst he))
          go_ret
          exact ⟨ret_ba HP.out.2.2.symm, (Below.refl _ _).alloc (Nat.le_refl _) _⟩
        · have t35 : ((b.toNat : Int) == 35) = false := by
            rw [beq_eq_false_iff_ne]
            intro h
            exact hb35 (UInt8.toNat_inj.1 (show b.toNat = (35 : UInt8).toNat by have : (35 : UInt8).toNat = 35 := rfl; omega))
          have HP := Lib.hid (And.intro hR hX)
          clear hP hX hR hb e hK hPl hb35
          go_enter Try.func59, Try.ntmps59
          go_wp2_with (
            (go_at_call 48
             refine (param_i l _ _ (by omega) (by omega) (by omega)).mono ?_
             rintro e w' ⟨he, rfl⟩
             rw [k3'.out, ← HP.out.1] at he
             subst he))
          go_ret
          exact ⟨ret_ba HP.out.2.symm, (Below.refl _ _).alloc (Nat.le_refl _) _⟩
  · rw [nameX_no t12 t7 t8]
    go_enter Try.func59, Try.ntmps59
    go_wp2_with fail
    go_ret
    exact ⟨rfl, (Below.refl _ _).alloc (Nat.le_refl _) _⟩
  · rw [nameX_12 t12]
    have k1 : (f : Int) + 1 ≤ (t : Int) := by omega
    have k2 : (t : Int) ≤ (l.length : Int) := by omega
    have k3 : (0 : Int) ≤ (f : Int) + 1 := by omega
    have k4 : ((f : Int) + 1).toNat = f + 1 := by omega
    go_enter Try.func59, Try.ntmps59
    go_wp2_with fail
    go_ret
    exact ⟨ret_ba rfl, (Below.refl _ _).alloc (Nat.le_refl _) _⟩
set_option maxHeartbeats 4000000 in
theorem rname_c (l : List UInt8) (m u : Int) (f t : Nat) (o : Bool) (w : World) (hl : l.length ≤ 900) (hf : f < t) (ht : t ≤ l.length) :
    Calls Try.prog 28 #[.string ⟨l.toArray⟩, .agg #[.int .i64 m, .int .i64 (f : Int), .int .i64 (t : Int), .int .i64 u, .bool o]] w fun e w' => e = .returned (.string ⟨(nameX l m f t).toArray⟩) ∧ Below w.heap.size w w' := by
  rcases mn_cases m with ⟨t12, t7, t8, s7, s8⟩ | ⟨t12, t7, t8, s7, s8⟩ | ⟨t12, t7, t8, s7, s8⟩ | ⟨t12, t7, t8, s7, s8⟩
  rotate_left
  · have hX := nameX_78 (l := l) (f := f) (t := t) t12 (.inl (by simpa using t7))
    obtain ⟨X, hXX⟩ : ∃ X, X = nameX l m f t := ⟨_, rfl⟩
    rw [← hXX] at hX ⊢
    clear hXX
    by_cases hlen : l.length ≤ f + 2
    · rw [if_pos hlen] at hX
      subst hX
      have k1 : ¬ ((f : Int) + 2 < (l.length : Int)) := by omega
      have k2 : (l.length : Int) ≤ (f : Int) + 2 := by omega
      go_enter Try.func28, Try.ntmps28
      go_wp2_with (
        (go_at_call 56
         refine (rparam_i l _ _ (by omega) (by omega) (by omega)).mono ?_
         rintro e w' ⟨he, rfl⟩
         rw [parL_end l _ (by omega)] at he
         subst he))
      all_goals go_ret
      all_goals first
        | exact ⟨rfl, (Below.refl _ _).alloc (Nat.le_refl _) _⟩
        | exact ⟨ret_ba (by simp), (Below.refl _ _).alloc (Nat.le_refl _) _⟩
    · rw [if_neg hlen] at hX
      obtain ⟨b, hb⟩ : ∃ b, l[f + 2]? = some b := ⟨_, List.getElem?_eq_getElem (by omega)⟩
      obtain ⟨hb1, hb2⟩ := List.getElem?_eq_some_iff.1 hb
      have hL : ∃ h : f + 2 < (ByteArray.mk l.toArray).size, (ByteArray.mk l.toArray)[f + 2]'h = b := ⟨hb1, hb2⟩
      obtain ⟨hL1, hL2⟩ := hL
      have k1 : (f : Int) + 2 < (l.length : Int) := by omega
      have k2 : (0 : Int) ≤ (f : Int) + 2 := by omega
      have k3 : ((f : Int) + 2).toNat = f + 2 := by omega
      have k4 : ((f : Int) + 2 + 1).toNat = f + 3 := by omega
      have k5 : (0 : Int) ≤ (f : Int) + 2 + 1 := by omega
      obtain ⟨P, hP⟩ : ∃ P, P = parL l (f + 3) := ⟨_, rfl⟩
      have hPl := parL_le l (f + 3)
      rw [← hP] at hPl
      by_cases hK : b = 35 ∧ 0 < P
      · obtain ⟨rfl, hP0⟩ := hK
        have e : nameK l f = f + 3 := by unfold nameK; rw [if_pos ⟨hb, by rw [← hP]; exact hP0⟩]
        rw [e, ← hP] at hX
        have k6 : (f : Int) + 2 + 1 + (P : Int) ≤ (l.length : Int) := by omega
        have k7 : (0 : Int) ≤ (f : Int) + 2 + 1 + (P : Int) := by omega
        have k8 : ((f : Int) + 2 + 1 + (P : Int)).toNat = f + 3 + P := by omega
        have k9 : (f : Int) + 2 + 1 ≤ (l.length : Int) := by omega
        have k10 : (f : Int) + 2 + 1 ≤ (f : Int) + 2 + 1 + (P : Int) := by omega
        have HP := Lib.hid (And.intro hP hX)
        clear hP hX hb hb2 e
        have k4' := Lib.hid k4
        clear k4
        go_enter Try.func28, Try.ntmps28
        go_wp2_with (
          (go_at_call 56
           refine (rparam_i l _ _ (by omega) (by omega) (by omega)).mono ?_
           rintro e w' ⟨he, rfl⟩
           rw [k4'.out, ← HP.out.1] at he
           subst he))
        go_ret
        exact ⟨ret_ba HP.out.2.symm, (Below.refl _ _).alloc (Nat.le_refl _) _⟩
      · have e : nameK l f = f + 2 := by unfold nameK; rw [if_neg (fun h => hK ⟨by have h1 := h.1; rw [hb] at h1; exact Option.some.inj h1, by rw [hP]; exact h.2⟩)]
        obtain ⟨R, hR⟩ : ∃ R, R = parL l (f + 2) := ⟨_, rfl⟩
        have hRl := parL_le l (f + 2)
        rw [e, ← hR] at hX
        rw [← hR] at hRl
        have k6 : (f : Int) + 2 + (R : Int) ≤ (l.length : Int) := by omega
        have k7 : (0 : Int) ≤ (f : Int) + 2 + (R : Int) := by omega
        have k8 : ((f : Int) + 2 + (R : Int)).toNat = f + 2 + R := by omega
        have k9 : (f : Int) + 2 ≤ (l.length : Int) := by omega
        have k10 : (f : Int) + 2 ≤ (f : Int) + 2 + (R : Int) := by omega
        have k3' := Lib.hid k3
        have k4' := Lib.hid k4
        clear k4
        by_cases hb35 : b = 35
        · subst hb35
          have hP0 : P = 0 := Classical.byContradiction fun h => hK ⟨rfl, by omega⟩
          rw [hP0] at hP
          have HP := Lib.hid (And.intro hP (And.intro hR hX))
          clear hP hX hR hb hb2 e hK hP0 hPl
          go_enter Try.func28, Try.ntmps28
          go_wp2_with (
            (go_at_call 56
             refine (rparam_i l _ _ (by omega) (by omega) (by omega)).mono ?_
             rintro e w' ⟨he, rfl⟩
             first
               | rw [k4'.out, ← HP.out.1] at he
               | rw [k3'.out, ← HP.out.2.1] at he
             subst he))
          go_ret
          exact ⟨ret_ba HP.out.2.2.symm, (Below.refl _ _).alloc (Nat.le_refl _) _⟩
        · have t35 : ((b.toNat : Int) == 35) = false := by
            rw [beq_eq_false_iff_ne]
            intro h
            exact hb35 (UInt8.toNat_inj.1 (show b.toNat = (35 : UInt8).toNat by have : (35 : UInt8).toNat = 35 := rfl; omega))
          have HP := Lib.hid (And.intro hR hX)
          clear hP hX hR hb e hK hPl hb35
          go_enter Try.func28, Try.ntmps28
          go_wp2_with (
            (go_at_call 56
             refine (rparam_i l _ _ (by omega) (by omega) (by omega)).mono ?_
             rintro e w' ⟨he, rfl⟩
             rw [k3'.out, ← HP.out.1] at he
             subst he))
          go_ret
          exact ⟨ret_ba HP.out.2.symm, (Below.refl _ _).alloc (Nat.le_refl _) _⟩
  · have hX := nameX_78 (l := l) (f := f) (t := t) t12 (.inr (by simpa using t8))
    obtain ⟨X, hXX⟩ : ∃ X, X = nameX l m f t := ⟨_, rfl⟩
    rw [← hXX] at hX ⊢
    clear hXX
    by_cases hlen : l.length ≤ f + 2
    · rw [if_pos hlen] at hX
      subst hX
      have k1 : ¬ ((f : Int) + 2 < (l.length : Int)) := by omega
      have k2 : (l.length : Int) ≤ (f : Int) + 2 := by omega
      go_enter Try.func28, Try.ntmps28
      go_wp2_with (
        (go_at_call 56
         refine (rparam_i l _ _ (by omega) (by omega) (by omega)).mono ?_
         rintro e w' ⟨he, rfl⟩
         rw [parL_end l _ (by omega)] at he
         subst he))
      all_goals go_ret
      all_goals first
        | exact ⟨rfl, (Below.refl _ _).alloc (Nat.le_refl _) _⟩
        | exact ⟨ret_ba (by simp), (Below.refl _ _).alloc (Nat.le_refl _) _⟩
    · rw [if_neg hlen] at hX
      obtain ⟨b, hb⟩ : ∃ b, l[f + 2]? = some b := ⟨_, List.getElem?_eq_getElem (by omega)⟩
      obtain ⟨hb1, hb2⟩ := List.getElem?_eq_some_iff.1 hb
      have hL : ∃ h : f + 2 < (ByteArray.mk l.toArray).size, (ByteArray.mk l.toArray)[f + 2]'h = b := ⟨hb1, hb2⟩
      obtain ⟨hL1, hL2⟩ := hL
      have k1 : (f : Int) + 2 < (l.length : Int) := by omega
      have k2 : (0 : Int) ≤ (f : Int) + 2 := by omega
      have k3 : ((f : Int) + 2).toNat = f + 2 := by omega
      have k4 : ((f : Int) + 2 + 1).toNat = f + 3 := by omega
      have k5 : (0 : Int) ≤ (f : Int) + 2 + 1 := by omega
      obtain ⟨P, hP⟩ : ∃ P, P = parL l (f + 3) := ⟨_, rfl⟩
      have hPl := parL_le l (f + 3)
      rw [← hP] at hPl
      by_cases hK : b = 35 ∧ 0 < P
      · obtain ⟨rfl, hP0⟩ := hK
        have e : nameK l f = f + 3 := by unfold nameK; rw [if_pos ⟨hb, by rw [← hP]; exact hP0⟩]
        rw [e, ← hP] at hX
        have k6 : (f : Int) + 2 + 1 + (P : Int) ≤ (l.length : Int) := by omega
        have k7 : (0 : Int) ≤ (f : Int) + 2 + 1 + (P : Int) := by omega
        have k8 : ((f : Int) + 2 + 1 + (P : Int)).toNat = f + 3 + P := by omega
        have k9 : (f : Int) + 2 + 1 ≤ (l.length : Int) := by omega
        have k10 : (f : Int) + 2 + 1 ≤ (f : Int) + 2 + 1 + (P : Int) := by omega
        have HP := Lib.hid (And.intro hP hX)
        clear hP hX hb hb2 e
        have k4' := Lib.hid k4
        clear k4
        go_enter Try.func28, Try.ntmps28
        go_wp2_with (
          (go_at_call 56
           refine (rparam_i l _ _ (by omega) (by omega) (by omega)).mono ?_
           rintro e w' ⟨he, rfl⟩
           rw [k4'.out, ← HP.out.1] at he
           subst he))
        go_ret
        exact ⟨ret_ba HP.out.2.symm, (Below.refl _ _).alloc (Nat.le_refl _) _⟩
      · have e : nameK l f = f + 2 := by unfold nameK; rw [if_neg (fun h => hK ⟨by have h1 := h.1; rw [hb] at h1; exact Option.some.inj h1, by rw [hP]; exact h.2⟩)]
        obtain ⟨R, hR⟩ : ∃ R, R = parL l (f + 2) := ⟨_, rfl⟩
        have hRl := parL_le l (f + 2)
        rw [e, ← hR] at hX
        rw [← hR] at hRl
        have k6 : (f : Int) + 2 + (R : Int) ≤ (l.length : Int) := by omega
        have k7 : (0 : Int) ≤ (f : Int) + 2 + (R : Int) := by omega
        have k8 : ((f : Int) + 2 + (R : Int)).toNat = f + 2 + R := by omega
        have k9 : (f : Int) + 2 ≤ (l.length : Int) := by omega
        have k10 : (f : Int) + 2 ≤ (f : Int) + 2 + (R : Int) := by omega
        have k3' := Lib.hid k3
        have k4' := Lib.hid k4
        clear k4
        by_cases hb35 : b = 35
        · subst hb35
          have hP0 : P = 0 := Classical.byContradiction fun h => hK ⟨rfl, by omega⟩
          rw [hP0] at hP
          have HP := Lib.hid (And.intro hP (And.intro hR hX))
          clear hP hX hR hb hb2 e hK hP0 hPl
          go_enter Try.func28, Try.ntmps28
          go_wp2_with (
            (go_at_call 56
             refine (rparam_i l _ _ (by omega) (by omega) (by omega)).mono ?_
             rintro e w' ⟨he, rfl⟩
             first
               | rw [k4'.out, ← HP.out.1] at he
               | rw [k3'.out, ← HP.out.2.1] at he
             subst he))
          go_ret
          exact ⟨ret_ba HP.out.2.2.symm, (Below.refl _ _).alloc (Nat.le_refl _) _⟩
        · have t35 : ((b.toNat : Int) == 35) = false := by
            rw [beq_eq_false_iff_ne]
            intro h
            exact hb35 (UInt8.toNat_inj.1 (show b.toNat = (35 : UInt8).toNat by have : (35 : UInt8).toNat = 35 := rfl; omega))
          have HP := Lib.hid (And.intro hR hX)
          clear hP hX hR hb e hK hPl hb35
          go_enter Try.func28, Try.ntmps28
          go_wp2_with (
            (go_at_call 56
             refine (rparam_i l _ _ (by omega) (by omega) (by omega)).mono ?_
             rintro e w' ⟨he, rfl⟩
             rw [k3'.out, ← HP.out.1] at he
             subst he))
          go_ret
          exact ⟨ret_ba HP.out.2.symm, (Below.refl _ _).alloc (Nat.le_refl _) _⟩
  · rw [nameX_no t12 t7 t8]
    go_enter Try.func28, Try.ntmps28
    go_wp2_with fail
    go_ret
    exact ⟨rfl, (Below.refl _ _).alloc (Nat.le_refl _) _⟩
  · rw [nameX_12 t12]
    have k1 : (f : Int) + 1 ≤ (t : Int) := by omega
    have k2 : (t : Int) ≤ (l.length : Int) := by omega
    have k3 : (0 : Int) ≤ (f : Int) + 1 := by omega
    have k4 : ((f : Int) + 1).toNat = f + 1 := by omega
    go_enter Try.func28, Try.ntmps28
    go_wp2_with fail
    go_ret
    exact ⟨ret_ba rfl, (Below.refl _ _).alloc (Nat.le_refl _) _⟩
theorem parts_nat (l : List UInt8) (hl : l.length ≤ 900) : ∀ q ∈ partsL l, ∃ f t : Nat, q.fr = (f : Int) ∧ toP q = (t : Int) ∧ f < t ∧ t ≤ l.length := by
  intro q hq
  obtain ⟨i, hi⟩ := List.mem_iff_getElem?.1 hq
  have hN := nest_law l i q hi
  have h1 := hN.f0
  have h2 : q.fr < toP q := hN.ft
  have h3 : toP q ≤ (l.length : Int) := hN.tn
  exact ⟨q.fr.toNat, (toP q).toNat, by omega, by omega, by omega, by omega⟩
end Go.Proofs.Ytjkiapgboljabaa
