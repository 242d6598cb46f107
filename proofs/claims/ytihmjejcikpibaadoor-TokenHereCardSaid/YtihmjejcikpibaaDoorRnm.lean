/- The reference's names and parameters (quillwortref04: IsName, Name, Param). -/
import Derived.Test.YtihmjejcikpibaaDoorCls
namespace Go.Proofs.YtihmjejcikpibaaDoor
open Go.RowKit
set_option linter.unusedVariables false
set_option linter.unusedSimpArgs false
set_option maxRecDepth 100000
def isNameL (l : List UInt8) : Bool := match l with
  | [] => false
  | c :: r => letB c && r.all nameB
theorem cls_bool (c : UInt8) : (letB c = (clsOf c == 5)) ∧ (digB c = (clsOf c == 6)) := ⟨rfl, rfl⟩
theorem bne_of {a b : Int} {x : Bool} (h : (a == b) = x) : (a != b) = !x := by rw [← h]; rfl
set_option maxHeartbeats 1000000 in
theorem isName_r (l : List UInt8) (w : World) (hl : l.length ≤ 100000) :
    Calls Tryd.prog 10 #[.string ⟨l.toArray⟩] w fun e w' => e = .returned (.bool (isNameL l)) ∧ w = w' := by
  cases l with
  | nil =>
    go_enter Tryd.func10, Tryd.ntmps10
    go_wp2
    go_ret
    exact ⟨rfl, rfl⟩
  | cons c r =>
    obtain ⟨m, hm⟩ : ∃ m : List UInt8, m = c :: r := ⟨_, rfl⟩
    have hlen : m.length = r.length + 1 := by rw [hm]; rfl
    have hl0 : ((m.length : Int) == 0) = false := by rw [beq_eq_false_iff_ne]; omega
    have hl1 : (0 : Int) < (m.length : Int) := by omega
    have hl2 : 0 < m.length := by omega
    have hb0 : ∃ h : 0 < (ByteArray.mk m.toArray).size, (ByteArray.mk m.toArray)[0]'h = c := ⟨hl2, by subst hm; rfl⟩
    obtain ⟨hb1, hb2⟩ := hb0
    have hat : ∀ k, m[k + 1]? = r[k]? := by intro k; subst hm; rfl
    have hres : isNameL (c :: r) = (letB c && r.all nameB) := rfl
    rw [hres, ← hm]
    have hl' : m.length ≤ 100000 := by rw [hm]; exact hl
    have HA := Lib.hid hat
    clear hat hl hres
    by_cases hc : letB c = true
    · have hc5 : (clsOf c == 5) = true := hc
      have hn5 : (clsOf c != 5) = false := bne_of hc5
      rw [hc, Bool.true_and]
      clear hm hc
      have HLE := Lib.hid hlen
      clear hlen
      go_enter Tryd.func10, Tryd.ntmps10
      go_wp2_with (go_at_call 18; refine (class_c c _).mono ?_; rintro e w' ⟨rfl, rfl⟩)
      go_loop [3] (fun i => ∃ k : Nat, k ≤ r.length ∧ i = .int .i64 ((k : Int) + 1) ∧ (r.take k).all nameB = true) (fun i => r.length + 1 - (intOf i).toNat)
      case atStart => exact ⟨0, by omega, rfl, rfl⟩
      case round =>
        obtain ⟨k, hk, rfl, hp⟩ := hrel
        have HP := Lib.hid hp
        clear hp
        by_cases hlt : k < r.length
        · obtain ⟨d, hd⟩ : ∃ d, r[k]? = some d := ⟨_, List.getElem?_eq_getElem hlt⟩
          have hdm : m[k + 1]? = some d := by rw [HA.out, hd]
          obtain ⟨g1, g2⟩ := List.getElem?_eq_some_iff.1 hdm
          have g3 : (ByteArray.mk m.toArray)[k + 1]'(show k + 1 < m.length from g1) = d := g2
          have k1 : (k : Int) + 1 < (m.length : Int) := by omega
          have k2 : (0 : Int) ≤ (k : Int) + 1 := by omega
          have k3 : ((k : Int) + 1).toNat = k + 1 := by omega
          have HD := Lib.hid hd
          clear g2 hd hdm
          cases hx : letB d
          · have q1 : (clsOf d == 5) = false := hx
            have q2 : (clsOf d != 5) = true := bne_of q1
            cases hy : digB d
            · have q3 : (clsOf d == 6) = false := hy
              have q4 : (clsOf d != 6) = true := bne_of q3
              have HX := Lib.hid (And.intro hx hy)
              clear hx hy
              go_wp2_with (go_at_call 18; refine (class_c d _).mono ?_; rintro e w' ⟨rfl, rfl⟩)
              go_ret
              refine ⟨ret_bool ?_, rfl⟩
              symm
              rw [List.all_eq_false]
              exact ⟨d, List.mem_of_getElem? HD.out, by simp [nameB, HX.out.1, HX.out.2]⟩
            · have q3 : (clsOf d == 6) = true := hy
              have q4 : (clsOf d != 6) = false := bne_of q3
              have HX := Lib.hid (And.intro hx hy)
              clear hx hy
              go_wp2_with (go_at_call 18; refine (class_c d _).mono ?_; rintro e w' ⟨rfl, rfl⟩)
              refine ⟨⟨k + 1, by omega, by go_num, ?_⟩, by simp [intOf]; omega⟩
              obtain ⟨t1, t2⟩ := List.getElem?_eq_some_iff.1 HD.out
              rw [List.take_succ_eq_append_getElem t1, t2, List.all_append, HP.out]
              simp [nameB, HX.out.1, HX.out.2]
          · have q1 : (clsOf d == 5) = true := hx
            have q2 : (clsOf d != 5) = false := bne_of q1
            have HX := Lib.hid hx
            clear hx
            go_wp2_with (go_at_call 18; refine (class_c d _).mono ?_; rintro e w' ⟨rfl, rfl⟩)
            refine ⟨⟨k + 1, by omega, by go_num, ?_⟩, by simp [intOf]; omega⟩
            obtain ⟨t1, t2⟩ := List.getElem?_eq_some_iff.1 HD.out
            rw [List.take_succ_eq_append_getElem t1, t2, List.all_append, HP.out]
            simp [nameB, HX.out]
        · have k1 : ¬ (k : Int) + 1 < (m.length : Int) := by have := HLE.out; omega
          go_wp2
          go_ret
          refine ⟨ret_bool ?_, rfl⟩
          have := HP.out
          rw [List.take_of_length_le (by omega)] at this
          exact this.symm
    · have hc' : letB c = false := by simpa using hc
      have hc5 : (clsOf c == 5) = false := hc'
      have hn5 : (clsOf c != 5) = true := bne_of hc5
      rw [hc', Bool.false_and]
      clear hm hc hc'
      go_enter Tryd.func10, Tryd.ntmps10
      go_wp2_with (go_at_call 18; refine (class_c c _).mono ?_; rintro e w' ⟨rfl, rfl⟩)
      go_ret
      exact ⟨rfl, rfl⟩
end Go.Proofs.YtihmjejcikpibaaDoor
