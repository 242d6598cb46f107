/- The reference's operators and blanks (quillwortref05.Text, At; quillwortref09.blank). -/
import Derived.Test.YtffngggdelmkpaaGreatDoorLa9
import Derived.Test.YtffngggdelmkpaaGreatDoorMem
import Derived.Test.YtffngggdelmkpaaGreatDoorHr9
import Derived.Lib.Strings
namespace Go.Proofs.YtffngggdelmkpaaGreatDoor
open Go.RowKit
set_option linter.unusedVariables false
set_option linter.unusedSimpArgs false
set_option maxRecDepth 100000
def allOps : List UInt8 := [38, 38, 32, 124, 124, 32, 59, 59, 32, 60, 60, 32, 60, 60, 45, 62, 62, 32, 60, 38, 32, 62, 38, 32, 60, 62, 32, 62, 124, 32, 60, 32, 32, 62, 32, 32, 38, 32, 32, 59, 32, 32, 124, 32, 32, 40, 32, 32, 41, 32, 32]
/-- A text without the spaces at its end. -/
def trimR : Nat → List UInt8 → List UInt8
  | 0, S => S
  | m + 1, S => if (S.getLastD 0).toNat = 32 then trimR m S.dropLast else S
theorem trimR_ops : ∀ k, 1 ≤ k → k ≤ 17 → trimR 3 (sub allOps (3 * (k - 1)) (3 * k)) = opTx k := by
  have : ((List.range 17).all fun k => trimR 3 (sub allOps (3 * k) (3 * (k + 1))) == opTx (k + 1)) = true := by decide +kernel
  intro k h1 h2
  have h := List.all_eq_true.1 this (k - 1) (List.mem_range.2 (by omega))
  rw [show k - 1 + 1 = k by omega] at h
  simpa using h
set_option maxHeartbeats 1000000 in
theorem text_r (k : Nat) (hk : k ≤ 17) (w : World) : Calls Tryz.prog 44 #[.int .i64 (k : Int)] w fun e w' => e = .returned (.string ⟨(opTx k).toArray⟩) ∧ w = w' := by
  by_cases h0 : k = 0
  · subst h0
    go_enter Tryz.func44, Tryz.ntmps44
    go_wp2
    go_ret
    exact ⟨rfl, rfl⟩
  · obtain ⟨j, rfl⟩ : ∃ j, k = j + 1 := ⟨k - 1, by omega⟩
    have d1 : decide (((j + 1 : Nat) : Int) < 1) = false := decide_eq_false (by omega)
    have d2 : decide ((17 : Int) < ((j + 1 : Nat) : Int)) = false := decide_eq_false (by omega)
    have htr := trimR_ops (j + 1) (by omega) hk
    obtain ⟨S, hS⟩ : ∃ S, S = sub allOps (3 * (j + 1 - 1)) (3 * (j + 1)) := ⟨_, rfl⟩
    rw [← hS] at htr
    have hSl : S.length = 3 := by rw [hS]; unfold sub allOps; simp; omega
    have HS := Lib.hid (And.intro hS htr)
    clear hS htr
    go_enter Tryz.func44, Tryz.ntmps44
    go_wp2_with fail
    have hext : (ByteArray.mk allOps.toArray).extract (3 * j) (3 * (j + 1)) = ⟨S.toArray⟩ := by rw [ba_extract, HS.out.1]; rfl
    have HX := Lib.hid hext
    clear hext
    go_loop [3] (fun s => ∃ T : List UInt8, T.length ≤ 3 ∧ s = .string ⟨T.toArray⟩ ∧ trimR T.length T = opTx (j + 1)) (fun s => match s with | .string b => b.size | _ => 0)
    case atStart => exact ⟨S, by omega, by rw [← HX.out]; rfl, by rw [hSl]; exact HS.out.2⟩
    case round =>
      obtain ⟨T, hT, rfl, htr⟩ := hrel
      by_cases hne : 0 < T.length
      · obtain ⟨m, hm⟩ : ∃ m, T.length = m + 1 := ⟨T.length - 1, by omega⟩
        obtain ⟨g1, g2⟩ := ba_at T m (by omega)
        obtain ⟨c, hc⟩ : ∃ c, c = T.getD m 0 := ⟨_, rfl⟩
        have hlast : T.getLastD 0 = c := by
          rw [hc]
          cases T with
          | nil => simp at hm
          | cons a r =>
            rw [List.getLastD_eq_getLast?, List.getLast?_eq_getElem?, List.getD_eq_getElem?_getD, hm]
            rfl
        rw [← hc] at g2
        have d0 : decide ((0 : Int) < (T.length : Int)) = true := decide_eq_true (by omega)
        have e1 : (T.length : Int) - 1 = (m : Int) := by omega
        have e2 : (m : Int) < (T.length : Int) := by omega
        have e3 : (0 : Int) ≤ (m : Int) := by omega
        have e4 : (m : Int) ≤ (T.length : Int) := by omega
        rw [hm] at htr
        unfold trimR at htr
        rw [hlast] at htr
        have HM := Lib.hid (And.intro hm htr)
        by_cases h32 : c.toNat = 32
        · have b1 : ((c.toNat : Int) == 32) = true := by rw [beq_iff_eq]; omega
          have hdl : (ByteArray.mk T.toArray).extract 0 m = ⟨(T.take m).toArray⟩ := by rw [ba_extract]; rfl
          have htl : T.dropLast = T.take m := by rw [List.dropLast_eq_take, hm]; rfl
          have hlen : (T.take m).length = m := by rw [List.length_take]; omega
          rw [if_pos h32, htl] at htr
          have HD := Lib.hid (And.intro hdl (And.intro hlen htr))
          clear hm htr hc hlast hdl htl hlen
          go_wp2
          refine ⟨⟨T.take m, ?_, ?_, ?_⟩, ?_⟩
          · rw [HD.out.2.1]; omega
          · rw [HD.out.1]
          · rw [HD.out.2.1]; exact HD.out.2.2
          · show ((ByteArray.mk T.toArray).extract 0 m).size < T.length
            rw [HD.out.1]
            show (T.take m).length < _
            rw [HD.out.2.1, HM.out.1]
            omega
        · have b1 : ((c.toNat : Int) == 32) = false := by rw [beq_eq_false_iff_ne]; omega
          rw [if_neg h32] at htr
          have HT := Lib.hid htr
          clear hm hc hlast htr
          go_wp2
          go_ret
          exact ⟨by rw [← HT.out] <;> rfl, rfl⟩
      · have d0 : decide ((0 : Int) < (T.length : Int)) = false := decide_eq_false (by omega)
        obtain rfl : T = [] := List.eq_nil_of_length_eq_zero (by omega)
        have htr : [] = opTx (j + 1) := htr
        have HT := Lib.hid htr
        clear htr
        go_wp2
        go_ret
        exact ⟨by rw [← HT.out]; rfl, rfl⟩
theorem isPre_sub (l t : List UInt8) (x : Nat) (h : x + t.length ≤ l.length) : t.isPrefixOf (l.drop x) = (sub l x (x + t.length) == t) := by
  rw [sub_take' l x _ (by omega)]
  rw [Bool.eq_iff_iff, List.isPrefixOf_iff_prefix, beq_iff_eq, List.prefix_iff_eq_take]
  exact eq_comm
theorem opBest_le (d : List UInt8) : ∀ k, opBest d k ≤ k
  | 0 => Nat.le_refl _
  | k + 1 => by
    unfold opBest
    split
    · exact Nat.le_refl _
    · exact Nat.le_succ_of_le (opBest_le d k)
set_option maxHeartbeats 2000000 in
theorem opat_r (l : List UInt8) (x : Nat) (w : World) (hl : l.length ≤ 100000) (hx : x ≤ l.length) :
    Calls Tryz.prog 43 #[.string ⟨l.toArray⟩, .int .i64 (x : Int)] w fun e w' => e = .returned (.int .i64 ((opBest (l.drop x) 17 : Nat) : Int)) ∧ w = w' := by
  obtain ⟨H, hH⟩ : ∃ H, H = opBest (l.drop x) 17 := ⟨_, rfl⟩
  rw [← hH]
  have HH := Lib.hid hH
  clear hH
  go_enter Tryz.func43, Tryz.ntmps43
  go_wp2
  go_loop [5, 6, 7] (fun b i t => ∃ k : Nat, k ≤ 17 ∧ i = .int .i64 ((k : Int) + 1) ∧ b = .int .i64 ((opBest (l.drop x) k : Nat) : Int)) (fun b i t => 18 - (intOf i).toNat)
  case atStart => exact ⟨0, by omega, rfl, rfl⟩
  case round =>
    obtain ⟨k, hk, rfl, rfl⟩ := hrel
    by_cases hlt : k < 17
    · obtain ⟨B, hB⟩ : ∃ B, B = opBest (l.drop x) k := ⟨_, rfl⟩
      have hBk : B ≤ k := by rw [hB]; exact opBest_le _ _
      obtain ⟨t, ht⟩ : ∃ t, t = opTx (k + 1) := ⟨_, rfl⟩
      obtain ⟨u, hu⟩ : ∃ u, u = opTx B := ⟨_, rfl⟩
      have htl : t.length ≤ 3 := by rw [ht]; exact opTx_len _
      have hul : u.length ≤ 3 := by rw [hu]; exact opTx_len _
      have hnext : opBest (l.drop x) (k + 1) = if t.isPrefixOf (l.drop x) = true ∧ u.length < t.length then k + 1 else B := by
        rw [ht, hu, hB]; rfl
      rw [← hB]
      have c1 : ∀ W, Calls Tryz.prog 44 #[.int .i64 ((k : Int) + 1)] W fun e w' => e = .returned (.string ⟨t.toArray⟩) ∧ W = w' := fun W => by rw [ht]; exact text_r (k + 1) (by omega) W
      have c2 : ∀ W, Calls Tryz.prog 44 #[.int .i64 (B : Int)] W fun e w' => e = .returned (.string ⟨u.toArray⟩) ∧ W = w' := fun W => by rw [hu]; exact text_r B (by omega) W
      have HC := Lib.hid (And.intro c1 (And.intro c2 hnext))
      have d0 : (k : Int) + 1 ≤ 17 := by omega
      clear c1 c2 hnext ht hu hB
      have hgo : ∀ b : Bool, (t.isPrefixOf (l.drop x) && decide (u.length < t.length)) = b → opBest (l.drop x) (k + 1) = if b = true then k + 1 else B := by
        rintro b rfl
        rw [HC.out.2.2]
        simp only [Bool.and_eq_true, decide_eq_true_eq]
      have HG := Lib.hid hgo
      clear hgo
      by_cases hfit : x + t.length ≤ l.length
      · have d1 : decide ((t.length : Int) ≤ (l.length : Int) - (x : Int)) = true := decide_eq_true (by omega)
        have e0 : (0 : Int) ≤ (x : Int) := by omega
        have e1 : (x : Int) ≤ (x : Int) + (t.length : Int) := by omega
        have e2 : (x : Int) + (t.length : Int) ≤ (l.length : Int) := by omega
        have hext : (ByteArray.mk l.toArray).extract x (x + t.length) = ⟨(sub l x (x + t.length)).toArray⟩ := by rw [ba_extract]; rfl
        have hpre := isPre_sub l t x hfit
        cases hp : t.isPrefixOf (l.drop x)
        all_goals (
          rw [hp] at hpre
          have q1 : (((ByteArray.mk l.toArray).extract x (x + t.length)).toList == t) = (sub l x (x + t.length) == t) := by rw [hext, Lib.toList_data]
          rw [← hpre] at q1
          cases hd : decide (u.length < t.length)
          all_goals (
            have d3 : decide ((u.length : Int) < (t.length : Int)) = decide (u.length < t.length) := decide_eq_decide.2 (by omega)
            rw [hd] at d3
            have hres := HG.out _ (show _ = _ by rw [hp, hd])
            have HR := Lib.hid hres
            clear hres hpre hext hp
            go_wp2_with (first
              | (go_at_call 44
                 with_reducible refine (HC.out.1 _).mono ?_
                 rintro e w' ⟨rfl, rfl⟩)
              | (go_at_call 44
                 with_reducible refine (HC.out.2.1 _).mono ?_
                 rintro e w' ⟨rfl, rfl⟩))
            exact ⟨⟨k + 1, by omega, by go_num, by rw [HR.out]; rfl⟩, by simp [intOf] <;> omega⟩))
      · have d1 : decide ((t.length : Int) ≤ (l.length : Int) - (x : Int)) = false := decide_eq_false (by omega)
        have hres : opBest (l.drop x) (k + 1) = B := by
          have hp : t.isPrefixOf (l.drop x) = false := by
            rw [Bool.eq_false_iff]
            intro h
            have := (List.isPrefixOf_iff_prefix.1 h).length_le
            rw [List.length_drop] at this
            omega
          rw [HG.out false (by rw [hp]; rfl)]
          rfl
        have HR := Lib.hid hres
        clear hres
        go_wp2_with (
          (go_at_call 44
           with_reducible refine (HC.out.1 _).mono ?_
           rintro e w' ⟨rfl, rfl⟩))
        exact ⟨⟨k + 1, by omega, by go_num, by rw [HR.out]⟩, by simp [intOf] <;> omega⟩
    · obtain rfl : k = 17 := by omega
      rw [← HH.out]
      go_wp2
      go_ret
      exact ⟨rfl, rfl⟩
set_option maxHeartbeats 2000000 in
theorem rblank_m (l : List UInt8) (x : Nat) (w : World) (hl : l.length ≤ 100000) (hx : x ≤ l.length) :
    Calls Tryz.prog 42 #[.string ⟨l.toArray⟩, .int .i64 (x : Int)] w fun e w' => e = .returned (.int .i64 ((blankL l x : Nat) : Int)) ∧ w = w' := by
  obtain ⟨H, hH⟩ : ∃ H, H = blankL l x := ⟨_, rfl⟩
  rw [← hH]
  have HH := Lib.hid hH
  clear hH
  go_enter Tryz.func42, Tryz.ntmps42
  go_wp2
  go_loop [1] (fun i => ∃ k : Nat, k ≤ l.length ∧ i = .int .i64 (k : Int) ∧ blankL l k = H) (fun i => l.length - (intOf i).toNat)
  case atStart => exact ⟨x, hx, rfl, HH.out.symm⟩
  case round =>
    obtain ⟨k, hk, rfl, he⟩ := hrel
    by_cases hlt : k < l.length
    · obtain ⟨g1, g2⟩ := ba_at l k hlt
      obtain ⟨c, hc⟩ : ∃ c, c = l.getD k 0 := ⟨_, rfl⟩
      rw [← hc] at g2
      have u1 : (k : Int) < (l.length : Int) := by omega
      have u2 : (0 : Int) ≤ (k : Int) := by omega
      rw [blankL_eq, if_pos hlt, ← hc] at he
      by_cases hb : blankB c = true
      · rw [if_pos hb] at he
        have hw : ((c.toNat : Int) == 32) = true ∨ (((c.toNat : Int) == 32) = false ∧ ((c.toNat : Int) == 9) = true) := by
          unfold blankB at hb
          simp only [Bool.or_eq_true, beq_iff_eq] at hb
          by_cases h : c.toNat = 32
          · exact .inl (by rw [beq_iff_eq]; omega)
          · exact .inr ⟨by rw [beq_eq_false_iff_ne]; omega, by rw [beq_iff_eq]; omega⟩
        have HE := Lib.hid he
        clear he hb hc
        rcases hw with b1 | ⟨b1, b2⟩ <;>
        · go_wp2
          exact ⟨⟨k + 1, by omega, by go_num, HE.out⟩, by simp [intOf] <;> omega⟩
      · rw [if_neg hb] at he
        have hn : ((c.toNat : Int) == 32) = false ∧ ((c.toNat : Int) == 9) = false := by
          unfold blankB at hb
          simp only [Bool.or_eq_true, beq_iff_eq] at hb
          exact ⟨by rw [beq_eq_false_iff_ne]; omega, by rw [beq_eq_false_iff_ne]; omega⟩
        obtain ⟨b1, b2⟩ := hn
        by_cases h92 : c.toNat = 92
        · have b3 : ((c.toNat : Int) == 92) = true := by rw [beq_iff_eq]; omega
          by_cases hk1 : k + 1 < l.length
          · obtain ⟨g3, g4⟩ := ba_at l (k + 1) hk1
            obtain ⟨d, hd⟩ : ∃ d, d = l.getD (k + 1) 0 := ⟨_, rfl⟩
            rw [← hd] at g4
            have u3 : (k : Int) + 1 < (l.length : Int) := by omega
            have u4 : (0 : Int) ≤ (k : Int) + 1 := by omega
            have d3 : decide ((k : Int) + 1 < (l.length : Int)) = true := decide_eq_true u3
            have hcont : contB l k = ((d.toNat : Int) == 10) := by
              unfold contB
              rw [← hc, ← hd, decide_eq_true hk1, h92]
              by_cases h : d.toNat = 10
              · rw [h]; rfl
              · rw [show (d.toNat == 10) = false by simpa using h, show ((d.toNat : Int) == 10) = false by rw [beq_eq_false_iff_ne]; omega]; rfl
            rw [hcont] at he
            cases hq : ((d.toNat : Int) == 10)
            · rw [hq, if_neg (by decide)] at he
              have HE := Lib.hid he
              clear he hb hc hd hcont
              go_wp2
              go_ret
              exact ⟨by rw [← HE.out] <;> rfl, rfl⟩
            · rw [hq, if_pos rfl] at he
              have HE := Lib.hid he
              clear he hb hc hd hcont
              go_wp2
              exact ⟨⟨k + 2, by omega, by go_num, HE.out⟩, by simp [intOf] <;> omega⟩
          · have d3 : decide ((k : Int) + 1 < (l.length : Int)) = false := decide_eq_false (by omega)
            have u3 : ¬ (k : Int) + 1 < (l.length : Int) := by omega
            have hcont : ¬ contB l k = true := by unfold contB; rw [decide_eq_false hk1]; simp
            rw [if_neg hcont] at he
            have HE := Lib.hid he
            clear he hb hc hcont
            go_wp2
            go_ret
            exact ⟨by rw [← HE.out] <;> rfl, rfl⟩
        · have b3 : ((c.toNat : Int) == 92) = false := by rw [beq_eq_false_iff_ne]; omega
          have hcont : ¬ contB l k = true := by
            unfold contB
            rw [← hc, show (c.toNat == 92) = false by simpa using h92]
            simp
          rw [if_neg hcont] at he
          have HE := Lib.hid he
          clear he hb hc hcont
          go_wp2
          go_ret
          exact ⟨by rw [← HE.out] <;> rfl, rfl⟩
    · have u1 : ¬ (k : Int) < (l.length : Int) := by omega
      rw [blankL_eq, if_neg hlt] at he
      have HE := Lib.hid he
      clear he
      go_wp2
      go_ret
      exact ⟨by rw [← HE.out] <;> rfl, rfl⟩
end Go.Proofs.YtffngggdelmkpaaGreatDoor
