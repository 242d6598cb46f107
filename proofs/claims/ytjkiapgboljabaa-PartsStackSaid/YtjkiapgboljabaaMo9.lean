/- The program's machine: Frames, Fresh, Run: behind a text the frames are those of rAt. -/
import Derived.Test.YtjkiapgboljabaaMo8
namespace Go.Proofs.Ytjkiapgboljabaa
open Go.RowKit
set_option linter.unusedVariables false
set_option linter.unusedSimpArgs false
set_option maxRecDepth 100000
/-- A row of frames that a call has made. -/
def Fr (w : World) (B : Nat) (v : Value) (st : Stk) : Prop := w.ownsRow B 99 2 v st.length (fcells st)
theorem one_frames (st : Stk) : ∀ u ∈ fcells st, u.oneCell' = true := by
  induction st with
  | nil => intro u hu; cases hu
  | cons x st ih =>
    obtain ⟨c, p⟩ := x
    intro u hu
    rw [fcells_cons] at hu
    rcases List.mem_append.1 hu with h | h
    · exact ih u h
    · simp at h; rcases h with rfl | rfl <;> rfl
theorem clone_m (st : Stk) (A : Addr) (n c : Nat) (w : World) (h : Rd w w.heap.size 2 (.slice (some A) n c) n (fcells st)) (hl : n ≤ 100000) :
    Calls Try.prog 76 #[.slice (some A) n c] w fun e w' => ∃ v, e = .returned v ∧ w'.ownsRow w.heap.size 99 2 v n (fcells st) ∧ Below w.heap.size w w' := by
  obtain ⟨i0, hi, hz0, hz1, hz2⟩ := info_parts Try.infoFrame
  have H := Lib.hid h
  clear h
  have hnil := fun (W : World) => Lib.run_eql_slice_nil (P := Try.prog) W
  go_enter Try.func76, Try.ntmps76
  go_wp2_with (first
    | (at_builtin
       refine wpList_append_rd rfl (.tmp 5) (.tmp 6) 49 rfl w.heap.size 99 i0 _ 2 16 Try.underlying49 hi hz0 hz1 hz2 rfl (by decide) (.slice (some ⟨w.heap.size, 0, none⟩) 0 0) 0 [] rfl (World.ownsRow_made _ _ _ (Nat.le_refl _) (by unfold maxLen; omega) (by simp)) (.slice (some A) n c) n w.heap.size (fcells st) rfl (H.out.keep (by go_grown) (Nat.le_refl _)) (one_frames st) (by unfold maxLen; omega) (by omega) (by simp) ?_
       intro v1 w1 hown1 hg1 hv1))
  go_ret
  exact ⟨v1, rfl, by simpa using hown1, ((Below.refl _ _).alloc (Nat.le_refl _) _).grown hg1 (by simp) (by intro k hk; simp [Value.ownBlock] at hk; omega)⟩
theorem frames_m (B b : Nat) (st : Stk) (f : Bool) (at_ : Int) (w : World) (h : Mach w B b st f at_) (hne : st ≠ []) (hl : st.length ≤ 100000) :
    Calls Try.prog 47 #[.pointer (some ⟨b, 0, none⟩)] w fun e w' => ∃ g c, e = .returned (.slice (some ⟨g, 0, none⟩) st.length c) ∧ Fr w' w.heap.size (.slice (some ⟨g, 0, none⟩) st.length c) st ∧ Below w.heap.size w w' := by
  obtain ⟨h1, g, cap, h2, h3⟩ := h
  have c0 : w.cell? ⟨b, 0, none⟩ = some (.slice (some ⟨g, 0, none⟩) st.length cap) := by rw [h2.cell]; rfl
  have hr := Rd.of_own h3
  have HR := Lib.hid hr
  have z0 : (((st.length : Nat) : Int) == 0) = false := by
    rw [beq_eq_false_iff_ne]
    have := List.length_pos_iff.2 hne
    omega
  obtain ⟨k, hk⟩ : ∃ k, st.length = k + 1 := ⟨st.length - 1, by have := List.length_pos_iff.2 hne; omega⟩
  have HK := Lib.hid hk
  clear h1 h2 h3 hr hne hk
  go_enter Try.func47, Try.ntmps47
  go_wp2_with (go_at_call 76
               refine (clone_m st _ _ _ _ HR.out hl).mono ?_
               rintro e w1 ⟨v, rfl, hown, hb⟩)
  go_ret
  have hk := HK.out
  rw [hk] at hown
  obtain ⟨g', c', rfl⟩ := own_some hown
  refine ⟨g', c', by rw [hk]; rfl, ?_, hb⟩
  unfold Fr
  rw [hk]
  exact hown
theorem fresh_m (B b : Nat) (st : Stk) (f : Bool) (at_ : Int) (w : World) (h : Mach w B b st f at_) (hne : st ≠ []) :
    Calls Try.prog 65 #[.pointer (some ⟨b, 0, none⟩)] w fun e w' => e = .returned (.bool f) ∧ w = w' := by
  obtain ⟨h1, g, cap, h2, h3⟩ := h
  have c0 : w.cell? ⟨b, 0, none⟩ = some (.slice (some ⟨g, 0, none⟩) st.length cap) := by rw [h2.cell]; rfl
  have c1 : w.cell? ⟨b, 1, none⟩ = some (.bool f) := by rw [h2.cell]; rfl
  have z0 : (((st.length : Nat) : Int) == 0) = false := by
    rw [beq_eq_false_iff_ne]
    have := List.length_pos_iff.2 hne
    omega
  clear h1 h2 h3 hne
  cases f
  all_goals (
    go_enter Try.func65, Try.ntmps65
    go_wp2
    go_ret
    first | exact ⟨rfl, rfl⟩ | exact ⟨rfl, trivial⟩ | simp)
theorem rAt_succ (l : List UInt8) (k : Nat) (hlt : k < l.length) : rAt l (k + 1) = rStep (rAt l k).1 (rAt l k).2 ((ByteArray.mk l.toArray)[k]'hlt) k := by
  show rStep _ _ (l.getD k 0) _ = _
  rw [ba_get, List.getD_eq_getElem?_getD, List.getElem?_eq_getElem hlt]
  rfl
/-- What modes.Run answers. -/
def RunPost (l : List UInt8) (w : World) (e : Ending) (w' : World) : Prop :=
  ∃ g c, e = .returned (.tuple #[.slice (some ⟨g, 0, none⟩) (rAt l l.length).1.length c, .bool (rAt l l.length).2]) ∧ Fr w' w.heap.size (.slice (some ⟨g, 0, none⟩) (rAt l l.length).1.length c) (rAt l l.length).1 ∧ Below w.heap.size w w'
theorem run_m (l : List UInt8) (w : World) (hl : l.length ≤ 90000) : Calls Try.prog 34 #[.string ⟨l.toArray⟩] w (RunPost l w) := by
  go_enter Try.func34, Try.ntmps34
  go_wp2_with (go_at_call 44; refine (new_m _).mono ?_
               rintro e w1 ⟨b, rfl, hm1, hb1⟩)
  have H1 := Lib.hid (And.intro hm1 hb1)
  clear hm1 hb1
  go_loopw [9] (fun i wr => ∃ k : Nat, k ≤ l.length ∧ i = .int .i64 k ∧ Mach wr w.heap.size b (rAt l k).1 (rAt l k).2 k ∧ Below w.heap.size w wr) (fun i _ => l.length - (intOf i).toNat)
  case atStart => exact ⟨0, by omega, rfl, H1.out.1, H1.out.2⟩
  case round =>
    obtain ⟨k, hk, rfl, hm, hb⟩ := hrel
    have hbot := rAt_bot l k
    have hv := rAt_v l k
    have hlen := rAt_len l k
    have HR := Lib.hid (And.intro hm (And.intro hb (And.intro hbot hv)))
    clear hm hb hbot hv
    by_cases hlt : k < l.length
    · have hi0 : (0 : Int) ≤ (k : Int) := by omega
      have hi1 : (k : Int) < (l.length : Int) := by omega
      go_wp2_with (go_at_call 45
                   refine (feed_m w.heap.size b _ _ _ _ _ HR.out.1 HR.out.2.2.1 HR.out.2.2.2 (by omega) (by omega) (by omega)).mono ?_
                   rintro e w2 ⟨rfl, hm2, hb2⟩
                   have H2 := Lib.hid (And.intro hm2 hb2)
                   clear hm2 hb2)
      have e := rAt_succ l k hlt
      obtain ⟨hm2, hb2⟩ := H2.out
      rw [← e] at hm2
      exact ⟨⟨k + 1, by omega, by go_num, by simpa using hm2, HR.out.2.1.trans hb2.b⟩, by simp [intOf]; omega⟩
    · have e : k = l.length := by omega
      subst e
      go_wp2_with (first
        | (go_at_call 47
           refine (frames_m w.heap.size b _ _ _ _ HR.out.1 HR.out.2.2.1.ne (by omega)).mono ?_
           rintro e w2 ⟨g, c, rfl, hfr, hb2⟩
           have H2 := Lib.hid (And.intro hfr hb2)
           clear hfr hb2)
        | (go_at_call 65
           refine (fresh_m w.heap.size b _ _ _ _ (HR.out.1.below H2.out.2) HR.out.2.2.1.ne).mono ?_
           rintro e w3 ⟨rfl, rfl⟩))
      go_ret2
      exact ⟨g, c, rfl, own_base H2.out.1 HR.out.2.1.size, HR.out.2.1.trans (H2.out.2.mono HR.out.2.1.size)⟩
/-! The frames by their numbers. -/
theorem fcells_at (st : Stk) : ∀ (k : Nat) (c : UInt8) (p : Int), st.reverse[k]? = some (c, p) → (fcells st)[k * 2]? = some (.int .i64 (modeOf c)) ∧ (fcells st)[k * 2 + 1]? = some (.int .i64 p) := by
  intro k c p
  unfold fcells
  generalize st.reverse = l
  induction l generalizing k with
  | nil => intro h; simp at h
  | cons x l ih =>
    intro h
    cases k with
    | zero => simp at h; subst h; simp
    | succ k =>
      have := ih k (by simpa using h)
      rw [show (k + 1) * 2 = k * 2 + 2 by omega]
      simpa using this
theorem letters_at (c : UInt8) (h : Val c = true) : ∃ m : Nat, m < 15 ∧ modeOf c = (m : Int) ∧ ([84, 67, 80, 79, 83, 68, 66, 86, 73, 65, 82, 69, 76, 88, 35] : List UInt8)[m]? = some c := by
  have := byte_all (fun c => !Val c || (List.range 15).any (fun m => modeOf c == (m : Int) && ([84, 67, 80, 79, 83, 68, 66, 86, 73, 65, 82, 69, 76, 88, 35] : List UInt8)[m]? == some c)) (by decide +kernel) c
  simp only [h, Bool.not_true, Bool.false_or, List.any_eq_true, Bool.and_eq_true, beq_iff_eq] at this
  obtain ⟨m, hm, h1, h2⟩ := this
  exact ⟨m, List.mem_range.1 hm, h1, h2⟩
theorem Vst.all {st : Stk} (h : Vst st) : ∀ x ∈ st, Val x.1 = true := by
  cases st with
  | nil => intro x hx; cases hx
  | cons y r =>
    obtain ⟨c, p⟩ := y
    intro x hx
    rcases List.mem_cons.1 hx with rfl | hx
    · exact h.1
    · exact mid_val _ (h.2 x hx)
end Go.Proofs.Ytjkiapgboljabaa
