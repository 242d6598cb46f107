/- The law's Same: the frames of a stack against the reference's state of the same stack: true. -/
import Derived.Test.YtailnilhhbjkmaaMo9
import Derived.Test.YtailnilhhbjkmaaRefM0
namespace Go.Proofs.Ytailnilhhbjkmaa
open Go.RowKit
set_option linter.unusedVariables false
set_option linter.unusedSimpArgs false
theorem fcells_at (st : Stk) : ∀ (k : Nat) (c : UInt8) (p : Int), st.reverse[k]? = some (c, p) → (fcells st)[k * 2]? = some (.int .i64 (modeOf c)) ∧ (fcells st)[k * 2 + 1]? = some (.int .i64 p) := by
  intro k c p
  unfold fcells
  generalize st.reverse = l
  induction l generalizing k with
  | nil => intro h; simp at h
  | cons x l ih =>
    intro h
    cases k with
    | zero => simp at h; subst h; simp
    | succ k =>
      have := ih k (by simpa using h)
      rw [show (k + 1) * 2 = k * 2 + 2 by omega]
      simpa using this
theorem letters_at (c : UInt8) (h : Val c = true) : ∃ m : Nat, m < 15 ∧ modeOf c = (m : Int) ∧ ([84, 67, 80, 79, 83, 68, 66, 86, 73, 65, 82, 69, 76, 88, 35] : List UInt8)[m]? = some c := by
  have := byte_all (fun c => !Val c || (List.range 15).any (fun m => modeOf c == (m : Int) && ([84, 67, 80, 79, 83, 68, 66, 86, 73, 65, 82, 69, 76, 88, 35] : List UInt8)[m]? == some c)) (by decide +kernel) c
  simp only [h, Bool.not_true, Bool.false_or, List.any_eq_true, Bool.and_eq_true, beq_iff_eq] at this
  obtain ⟨m, hm, h1, h2⟩ := this
  exact ⟨m, List.mem_range.1 hm, h1, h2⟩
theorem Vst.all {st : Stk} (h : Vst st) : ∀ x ∈ st, Val x.1 = true := by
  cases st with
  | nil => intro x hx; cases hx
  | cons y r =>
    obtain ⟨c, p⟩ := y
    intro x hx
    rcases List.mem_cons.1 hx with rfl | hx
    · exact h.1
    · exact mid_val _ (h.2 x hx)
set_option maxHeartbeats 1000000 in
theorem same_c (st : Stk) (S : List UInt8) (A : Option Addr) (g o n k c : Nat) (f : Bool) (w : World) (hf : Rd w w.heap.size 2 (.slice (some ⟨g, o, none⟩) n c) n (fcells st)) (hx : Rs w S A n k st) (hv : Vst st) (hl : n ≤ 100000) :
    Calls Try.prog 13 #[.slice (some ⟨g, o, none⟩) n c, .agg #[.string ⟨S.toArray⟩, .slice A n k, .bool f]] w fun e w' => e = .returned (.bool true) ∧ Below w.heap.size w w' := by
  obtain ⟨hS, hn, hP⟩ := hx
  have hSl : S.length = n := by rw [hS, rS_len, hn]
  have hz : ¬ ((n : Int) ≠ (n : Int)) := by simp
  have H := Lib.hid (And.intro hS (And.intro hn (And.intro hP (And.intro hf hv))))
  clear hS hn hP hf hv
  go_enter Try.func13, Try.ntmps13
  go_wp2
  go_loopw [5] (fun i wr => ∃ j : Nat, j ≤ n ∧ i = .int .i64 j ∧ Below w.heap.size w wr ∧ Bk wr w.heap.size 28 #[.string ⟨S.toArray⟩, .slice A n k, .bool f]) (fun i _ => n - (intOf i).toNat)
  case atStart => exact ⟨0, by omega, rfl, by go_grown, Bk.new _ _ _⟩
  case round =>
    obtain ⟨j, hj, rfl, hb, hbk⟩ := hrel
    have HR := Lib.hid (And.intro hb hbk)
    clear hb hbk
    by_cases hlt : j < n
    · obtain ⟨hS, hn, hP, hf, hv⟩ := H.out
      obtain ⟨hb, hbk⟩ := HR.out
      obtain ⟨y0, y1, y2, _⟩ := hbk.three
      have hjl : j < st.reverse.length := by simp; omega
      obtain ⟨⟨c0, p0⟩, hcp⟩ : ∃ x, st.reverse[j]? = some x := ⟨_, List.getElem?_eq_getElem hjl⟩
      have hcv := hv.all (c0, p0) (List.mem_reverse.1 (List.mem_of_getElem? hcp))
      obtain ⟨m, hm15, hm, hlet⟩ := letters_at c0 hcv
      obtain ⟨e1, e2⟩ := fcells_at st j c0 p0 hcp
      obtain ⟨_, A', c', hs, _, _, _, hcs1⟩ := hf
      cases hs
      obtain ⟨g', o', hA, hgB, hcells⟩ := hcs1 (by omega)
      injection hA with hA
      injection hA with hA1 hA2
      subst hA1 hA2
      have d1 : wr.cell? ⟨g, o + j * 2, none⟩ = some (.int .i64 (m : Int)) := by rw [← hm]; exact (hb.cell (p := ⟨g, o + j * 2, none⟩) hgB).trans (hcells _ _ e1)
      have d2 : wr.cell? ⟨g, o + j * 2 + 1, none⟩ = some (.int .i64 p0) := (hb.cell (p := ⟨g, o + (j * 2 + 1), none⟩) hgB).trans (hcells _ _ e2)
      obtain ⟨_, A', c', hs, _, hkm, _, hcs⟩ := hP.rd
      cases hs
      obtain ⟨g2, o2, rfl, hg2, hcells2⟩ := hcs (by omega)
      have d3 : wr.cell? ⟨g2, o2 + j, none⟩ = some (.int .i64 p0) := (hb.cell (p := ⟨g2, o2 + j, none⟩) hg2).trans (hcells2 _ _ (by
        rw [List.getElem?_map]; unfold rP; rw [← List.map_reverse, List.getElem?_map, hcp]; rfl))
      have hSj : ∃ h : j < (ByteArray.mk S.toArray).size, (ByteArray.mk S.toArray)[j]'h = c0 := by
        have : S[j]? = some c0 := by rw [hS]; unfold rS; rw [← List.map_reverse, List.getElem?_map, hcp]; rfl
        obtain ⟨h1, h2⟩ := List.getElem?_eq_some_iff.1 this
        exact ⟨h1, h2⟩
      obtain ⟨hSj1, hSj2⟩ := hSj
      have hL : ∃ h : m < (ByteArray.mk #[84, 67, 80, 79, 83, 68, 66, 86, 73, 65, 82, 69, 76, 88, 35]).size, (ByteArray.mk #[84, 67, 80, 79, 83, 68, 66, 86, 73, 65, 82, 69, 76, 88, 35])[m]'h = c0 := by
        obtain ⟨h1, h2⟩ := List.getElem?_eq_some_iff.1 hlet
        exact ⟨hm15, h2⟩
      obtain ⟨hL1, hL2⟩ := hL
      have k1 : ((m : Int) < 15) := by omega
      have k2 : decide ((14 : Int) < (m : Int)) = false := by simp; omega
      have k3 : (0 : Int) ≤ (j : Int) := by omega
      have k4 : (j : Int) < (n : Int) := by omega
      have k5 : (0 : Int) ≤ (m : Int) := by omega
      have k6 : decide ((m : Int) < 0) = false := by simp
      clear hS hn hP hv hb hbk hcs hcs1 hcells hcells2 hm hlet e1 e2 hcp hcv
      go_wp2_with fail
      go_quiet (fail)
      go_wp2
      exact ⟨⟨j + 1, by omega, by go_num, below_drewN' HR.out.1 _, HR.out.2.drewN _⟩, by simp [intOf]; omega⟩
    · go_wp2
      go_ret
      exact ⟨rfl, HR.out.1⟩
end Go.Proofs.Ytailnilhhbjkmaa
