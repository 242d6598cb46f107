/- token.At: the number of the token at a place (slices.IndexFunc). -/
import Derived.Test.YtihmjejcikpibaaDoorTz9
import Derived.Test.YtihmjejcikpibaaDoorPa0
namespace Go.Proofs.YtihmjejcikpibaaDoor
open Go.RowKit
set_option linter.unusedVariables false
set_option linter.unusedSimpArgs false
set_option maxRecDepth 100000
def atZ (p : Int) (t : Tz) : Bool := decide (t.fr ≤ p) && decide (p < t.to)
set_option maxHeartbeats 1000000 in
theorem at1_m (t : Tz) (p : Int) (b : Nat) (w : World) (hk : Bk w b 3 #[.int .i64 p]) :
    Calls Tryd.prog 21 #[.agg #[.int .i64 t.kd, .int .i64 t.fr, .int .i64 t.to, .bool t.op], .pointer (some ⟨b, 0, none⟩)] w fun e w' => e = .returned (.bool (atZ p t)) ∧ Below w.heap.size w w' := by
  obtain ⟨kd, fr, to, op⟩ := t
  have hlt := hk.lt
  have hw : (fr ≤ p ∧ decide (p < to) = atZ p ⟨kd, fr, to, op⟩) ∨ (¬ fr ≤ p ∧ atZ p ⟨kd, fr, to, op⟩ = false) := by
    unfold atZ
    by_cases h : fr ≤ p
    · exact .inl ⟨h, by simp [h]⟩
    · exact .inr ⟨h, by simp [h]⟩
  generalize atZ p ⟨kd, fr, to, op⟩ = r at hw ⊢
  have y0 : w.cell? ⟨b, 0, none⟩ = some (.int .i64 p) := by rw [hk.cell]; rfl
  have a1 : ¬ b = w.heap.size := by omega
  have a2 : ¬ w.heap.size = b := by omega
  clear hk
  rcases hw with ⟨h1, h2⟩ | ⟨h1, rfl⟩
  · go_enter Tryd.func21, Tryd.ntmps21
    go_wp2
    go_ret
    exact ⟨by first | rfl | exact ret_bool h2, Below.alloc (Below.refl _ _) (Nat.le_refl _) _⟩
  · go_enter Tryd.func21, Tryd.ntmps21
    go_wp2
    go_ret
    exact ⟨rfl, Below.alloc (Below.refl _ _) (Nat.le_refl _) _⟩
def atL (p : Int) : List Tz → Int → Int
  | [], _ => -1
  | t :: r, k => if atZ p t = true then k else atL p r (k + 1)
set_option maxHeartbeats 1000000 in
theorem indexf_m (ts : List Tz) (p : Int) (A : Option Addr) (c b : Nat) (w : World) (hl : ts.length ≤ 100000) (hR : Rd w w.heap.size 4 (.slice A ts.length c) ts.length (ts.flatMap tzc)) (hk : Bk w b 3 #[.int .i64 p]) :
    Calls Tryd.prog 20 #[.slice A ts.length c, .func (.func 21) #[] #[.pointer (some ⟨b, 0, none⟩)]] w fun e w' => e = .returned (.int .i64 (atL p ts 0)) ∧ Below w.heap.size w w' := by
  have H0 := Lib.hid (And.intro hR hk)
  clear hR hk
  go_enter Tryd.func20, Tryd.ntmps20
  go_wp2
  go_loopw [5, 8] (fun s i wr => ∃ k : Nat, k ≤ ts.length ∧ i = .int .i64 k ∧ atL p ts 0 = atL p (ts.drop k) k ∧ Below w.heap.size w wr) (fun s i _ => ts.length - (intOf i).toNat)
  case atStart => exact ⟨0, Nat.zero_le _, rfl, rfl, Below.refl _ _⟩
  case round =>
    obtain ⟨k, hk, rfl, hp, hb⟩ := hrel
    by_cases hlt : k < ts.length
    · obtain ⟨⟨kd, fr, to, op⟩, hget⟩ : ∃ t, ts[k]? = some t := ⟨_, List.getElem?_eq_getElem hlt⟩
      obtain ⟨g, q, rfl, _, hc⟩ := rd_at tzc_len (H0.out.1.keep hb (Nat.le_refl _)) hget rfl
      have y0 : wr.cell? ⟨g, q + k * 4, none⟩ = some (.int .i64 kd) := hc 0 _ rfl
      have y1 : wr.cell? ⟨g, q + k * 4 + 1, none⟩ = some (.int .i64 fr) := hc 1 _ rfl
      have y2 : wr.cell? ⟨g, q + k * 4 + 2, none⟩ = some (.int .i64 to) := hc 2 _ rfl
      have y3 : wr.cell? ⟨g, q + k * 4 + 3, none⟩ = some (.bool op) := hc 3 _ rfl
      have u1 : (k : Int) < (ts.length : Int) := by omega
      have u2 : (0 : Int) ≤ (k : Int) := by omega
      have hd : ts.drop k = ⟨kd, fr, to, op⟩ :: ts.drop (k + 1) := by
        rw [List.drop_eq_getElem_cons hlt]
        rw [List.getElem?_eq_getElem hlt] at hget
        injection hget with hget
        rw [hget]
      have hstep : atL p (ts.drop k) k = if atZ p ⟨kd, fr, to, op⟩ = true then (k : Int) else atL p (ts.drop (k + 1)) ((k + 1 : Nat) : Int) := by rw [hd]; rfl
      have hcall := at1_m ⟨kd, fr, to, op⟩ p b wr (H0.out.2.below hb H0.out.2.lt)
      rw [hstep] at hp
      generalize atZ p ⟨kd, fr, to, op⟩ = r at hp hcall
      have HP := Lib.hid (And.intro hp (And.intro hb hcall))
      clear hp hb hcall hstep hd hget hc
      cases r <;> go_wp2_with (
        (go_at_call 21
         refine HP.out.2.2.mono ?_
         rintro e w5 ⟨rfl, hb5⟩
         have H5 := Lib.hid hb5
         clear hb5))
      · exact ⟨⟨k + 1, by omega, by go_num, by rw [HP.out.1]; rfl, HP.out.2.1.trans (H5.out.mono HP.out.2.1.size)⟩, by simp [intOf]; omega⟩
      · go_ret
        exact ⟨by rw [HP.out.1]; rfl, HP.out.2.1.trans (H5.out.mono HP.out.2.1.size)⟩
    · obtain rfl : k = ts.length := by omega
      rw [List.drop_length] at hp
      have HP := Lib.hid (And.intro hp hb)
      clear hp hb
      go_wp2_with fail
      go_ret
      exact ⟨by rw [HP.out.1]; rfl, HP.out.2⟩
set_option maxHeartbeats 1000000 in
theorem tat_m (ts : List Tz) (p : Int) (A : Option Addr) (c : Nat) (w : World) (hl : ts.length ≤ 100000) (hR : Rd w w.heap.size 4 (.slice A ts.length c) ts.length (ts.flatMap tzc)) :
    Calls Tryd.prog 16 #[.slice A ts.length c, .int .i64 p] w fun e w' => e = .returned (.int .i64 (atL p ts 0)) ∧ Below w.heap.size w w' := by
  have H0 := Lib.hid hR
  clear hR
  go_enter Tryd.func16, Tryd.ntmps16
  go_wp2_with (
    (go_at_call 20
     refine (indexf_m ts p A c w.heap.size _ hl ((H0.out.alloc (Nat.le_refl _) _).mono (by simp)) (Bk.new _ _ _)).mono ?_
     rintro e w5 ⟨rfl, hb5⟩
     have H5 := Lib.hid hb5
     clear hb5))
  go_ret
  exact ⟨rfl, (Below.alloc (Below.refl _ _) (Nat.le_refl _) _).trans (H5.out.mono (by simp))⟩
end Go.Proofs.YtihmjejcikpibaaDoor
