/- quillwortref09.Shut: is nothing to be shut behind a word? -/
import Derived.Test.YtffngggdelmkpaaGreatDoorRefM3
import Derived.Test.YtffngggdelmkpaaGreatDoorLa9
namespace Go.Proofs.YtffngggdelmkpaaGreatDoor
open Go.RowKit
set_option linter.unusedVariables false
set_option linter.unusedSimpArgs false
set_option maxRecDepth 100000
theorem val_clo (c : UInt8) (hv : Val c = true) (h84 : c ≠ 84) (hc : cloL c = []) : c = 76 := by
  have := byte_all (fun c => !Val c || c == 84 || !(cloL c == []) || c == 76) (by decide +kernel) c
  rw [hv, hc] at this
  simpa [h84] using this
theorem mid_clo (c : UInt8) (hv : Mid c = true) (h84 : c ≠ 84) : cloL c ≠ [] := by
  have := byte_all (fun c => !Mid c || c == 84 || !(cloL c == [])) (by decide +kernel) c
  rw [hv] at this
  simpa [h84] using this
theorem shut_iff (st : Stk) (hb : Bot st) (hv : Vst st) : decide (clo st = []) = ((rS st == [84]) || (rS st == [84, 76])) := by
  match st, hb, hv with
  | [(c, p)], hb, hv =>
    obtain rfl : c = 84 := hb
    rfl
  | (c, p) :: (d, q) :: r, hb, hv =>
    obtain ⟨hc, hb2⟩ : c ≠ 84 ∧ Bot ((d, q) :: r) := hb
    rw [Bool.eq_iff_iff]
    simp only [decide_eq_true_eq, Bool.or_eq_true, beq_iff_eq]
    constructor
    · intro h
      rw [clo_cons] at h
      obtain ⟨h1, h2⟩ := List.append_eq_nil_iff.1 h
      obtain rfl := val_clo c hv.1 hc h1
      right
      cases r with
      | nil =>
        obtain rfl : d = 84 := hb2
        rfl
      | cons y r =>
        exfalso
        rw [clo_cons] at h2
        obtain ⟨h3, h4⟩ := List.append_eq_nil_iff.1 h2
        exact mid_clo d (hv.2 (d, q) (by simp)) hb2.1 h3
    · rintro (h | h)
      · have := congrArg List.length h
        rw [rS_len] at this
        simp at this
      · have hl := congrArg List.length h
        rw [rS_len] at hl
        have : r = [] := List.eq_nil_of_length_eq_zero (by simpa using hl)
        subst this
        have h2 : rS [(c, p), (d, q)] = [d, c] := rfl
        rw [h2] at h
        injection h with h3 h4
        injection h4 with h4 h5
        subst h3
        subst h4
        rfl
set_option maxHeartbeats 1000000 in
theorem shut_r (l : List UInt8) (w : World) (hl : l.length ≤ 900) :
    Calls Tryz.prog 48 #[.string ⟨l.toArray⟩] w fun e w' => e = .returned (.bool (shutB l)) ∧ Below w.heap.size w w' := by
  have hres : shutB l = ((rS (rAt l l.length).1 == [84]) || (rS (rAt l l.length).1 == [84, 76])) := shut_iff _ (rAt_bot l _) (rAt_v l _)
  generalize shutB l = R at hres ⊢
  have HR := Lib.hid hres
  clear hres
  go_enter Tryz.func48, Tryz.ntmps48
  go_wp2_with fail
  go_at_call 77
  refine (run_r l _ hl).mono ?_
  rintro e w1 ⟨S, A, n, k, rfl, hx, hb⟩
  have hS : S = rS (rAt l l.length).1 := hx.1
  rw [← hS] at HR
  have HX := Lib.hid (And.intro hx hb)
  clear hx hb hS
  cases h1 : (S == [84])
  · cases h2 : (S == [84, 76])
    · have hr : R = false := by rw [HR.out, h1, h2]; rfl
      subst hr
      go_wp2
      go_ret
      exact ⟨rfl, HX.out.2.alloc HX.out.2.size _⟩
    · have hr : R = true := by rw [HR.out, h1, h2]; rfl
      subst hr
      go_wp2
      go_ret
      exact ⟨rfl, HX.out.2.alloc HX.out.2.size _⟩
  · have hr : R = true := by rw [HR.out, h1]; rfl
    subst hr
    go_wp2
    go_ret
    exact ⟨rfl, HX.out.2.alloc HX.out.2.size _⟩
end Go.Proofs.YtffngggdelmkpaaGreatDoor
