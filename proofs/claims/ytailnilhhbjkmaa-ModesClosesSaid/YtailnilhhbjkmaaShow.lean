/- modes.Show: a stack's letters, one a frame. -/
import Derived.Test.YtailnilhhbjkmaaSame
import Derived.Laws.IdiomStrings
import Derived.Laws.MakeOwn
namespace Go.Proofs.Ytailnilhhbjkmaa
open Go.RowKit
set_option linter.unusedVariables false
set_option linter.unusedSimpArgs false
def LET : List UInt8 := [84, 67, 80, 79, 83, 68, 66, 86, 73, 65, 82, 69, 76, 88, 35]
def showB (m : Int) : UInt8 := if 0 ≤ m ∧ m < 15 then LET.getD m.toNat 63 else 63
def ifl (fl : List (Int × Int)) : List Value := fl.flatMap fun x => [.int .i64 x.1, .int .i64 x.2]
theorem ifl_at (fl : List (Int × Int)) : ∀ (k : Nat) (m p : Int), fl[k]? = some (m, p) → (ifl fl)[k * 2]? = some (.int .i64 m) ∧ (ifl fl)[k * 2 + 1]? = some (.int .i64 p) := by
  intro k m p
  unfold ifl
  induction fl generalizing k with
  | nil => intro h; simp at h
  | cons x l ih =>
    intro h
    cases k with
    | zero => simp at h; subst h; simp
    | succ k =>
      have := ih k (by simpa using h)
      rw [show (k + 1) * 2 = k * 2 + 2 by omega]
      simpa using this
def bvals (l : List UInt8) : List Value := l.map fun b => .int .u8 (b.toNat : Int)
theorem bvals_snoc (l : List UInt8) (b : UInt8) : bvals (l ++ [b]) = bvals l ++ [.int .u8 (b.toNat : Int)] := by simp [bvals]
theorem one_bytes (l : List UInt8) : ∀ u ∈ bvals l, u.oneCell' = true := by
  intro u hu
  obtain ⟨x, _, rfl⟩ := List.mem_map.1 hu
  rfl
theorem Try.infoByte : (Try.prog.info? 5).map (fun i => (i.zero, i.size, i.bytes)) = some (some (.int .u8 0), 1, 1) := by kernel_rfl
def shL (fl : List (Int × Int)) : List UInt8 := fl.map fun x => showB x.1
theorem shL_snoc (fl : List (Int × Int)) (k : Nat) (m p : Int) (h : fl[k]? = some (m, p)) : (shL fl).take (k + 1) = (shL fl).take k ++ [showB m] := by
  have hk := (List.getElem?_eq_some_iff.1 h).1
  rw [List.take_succ_eq_append_getElem (by simpa [shL] using hk)]
  congr 2
  have := (List.getElem?_eq_some_iff.1 h).2
  simp [shL, this]
/-- What holds at each round's head. -/
def ShRel (w wr : World) (v : Value) (fl : List (Int × Int)) (k : Nat) : Prop := wr.ownsRow w.heap.size 5 1 v k (bvals ((shL fl).take k)) ∧ Below w.heap.size w wr ∧ ∃ g c, v = .slice (some ⟨g, 0, none⟩) k c
theorem shRel_next {w wr w0 w1 : World} {v v1 : Value} {fl : List (Int × Int)} {k : Nat} {m p : Int} {b : Int} (h : ShRel w wr v fl k) (h0 : Below wr.heap.size wr w0) (hm : fl[k]? = some (m, p)) (hb : ((showB m).toNat : Int) = b)
    (hown : w1.ownsRow w.heap.size 5 1 v1 (k + 1) (bvals ((shL fl).take k) ++ [.int .u8 b])) (hg : w0.grownBy w1 v.ownBlock) : ShRel w w1 v1 fl (k + 1) := by
  refine ⟨?_, ?_, own_some hown⟩
  · rw [shL_snoc fl k m p hm, bvals_snoc, hb]; exact hown
  · exact (h.2.1.trans (h0.mono h.2.1.size)).grown hg (Nat.le_trans h.2.1.size h0.size) (fun j hj => (h.1.lt j hj).1)
set_option maxHeartbeats 1000000 in
theorem show_c (fl : List (Int × Int)) (A : Option Addr) (n c : Nat) (w : World) (hf : Rd w w.heap.size 2 (.slice A n c) n (ifl fl)) (hn : n = fl.length) (hl : n ≤ 100000) :
    Calls Try.prog 18 #[.slice A n c] w fun e w' => e = .returned (.string ⟨(shL fl).toArray⟩) ∧ Below w.heap.size w w' := by
  obtain ⟨i0, hi, hz0, hz1, hz2⟩ := info_parts Try.infoByte
  have hmk := fun (W : World) => run_make (P := Try.prog) W 54 5 i0 _ Try.underlying54 hi hz0 .i64 .i64 0 (n : Int) (by omega) (by omega) (by rw [hz2]; omega) (by omega)
  simp only [Int.toNat_natCast, Int.toNat_zero, hz1, Nat.mul_one] at hmk
  have H := Lib.hid (And.intro hf hn)
  clear hf hn
  go_enter Try.func18, Try.ntmps18
  go_wp2
  go_loopw [3, 11] (fun v i wr => ∃ k : Nat, k ≤ n ∧ i = .int .i64 k ∧ ShRel w wr v fl k) (fun _ i _ => n - (intOf i).toNat)
  case atStart => exact ⟨0, by omega, rfl, World.ownsRow_made _ _ _ (Nat.le_refl _) (by unfold maxLen; omega) (by simp [size_madeCells]), by go_grown, _, _, rfl⟩
  case round =>
    obtain ⟨k, hk, rfl, hR⟩ := hrel
    by_cases hlt : k < n
    · obtain ⟨⟨m, p⟩, hmp⟩ : ∃ x, fl[k]? = some x := ⟨_, List.getElem?_eq_getElem (by have := H.out.2; omega)⟩
      obtain ⟨e1, e2⟩ := ifl_at fl k m p hmp
      obtain ⟨hf, hn⟩ := H.out
      obtain ⟨_, A', c', hs, _, _, _, hcs1⟩ := hf
      cases hs
      obtain ⟨g, o, rfl, hgB, hcells⟩ := hcs1 (by omega)
      have d1 : wr.cell? ⟨g, o + k * 2, none⟩ = some (.int .i64 m) := (hR.2.1.cell (p := ⟨g, o + k * 2, none⟩) hgB).trans (hcells _ _ e1)
      have d2 : wr.cell? ⟨g, o + k * 2 + 1, none⟩ = some (.int .i64 p) := (hR.2.1.cell (p := ⟨g, o + (k * 2 + 1), none⟩) hgB).trans (hcells _ _ e2)
      have hgr : g < wr.heap.size := Nat.lt_of_lt_of_le hgB hR.2.1.size
      have k3 : (0 : Int) ≤ (k : Int) := by omega
      have k4 : (k : Int) < (n : Int) := by omega
      have HR := Lib.hid (And.intro hR (And.intro hmp hn))
      clear hR hn hmp e1 e2 hcs1 hcells
      by_cases hm0 : m < 0
      · have t0 : decide (m < 0) = true := by simpa using hm0
        go_wp2_with (first
          | (at_builtin
             refine wpList_append_rd rfl (.tmp 23) (.tmp 24) 54 rfl w.heap.size 5 i0 _ 1 1 Try.underlying54 hi hz0 hz1 hz2 rfl (by decide) u3 k (bvals ((shL fl).take k)) rfl ((HR.out.1.1.alloc _).alloc _) (.slice (some ⟨wr.heap.size + 1, 0, none⟩) 1 1) 1 (wr.heap.size + 1 + 1) [.int .u8 63] rfl (by simpa using rd_new (wr.alloc (.cells #[.int .i64 m, .int .i64 p] 38)) [.int .u8 63] 5 1 1 rfl (by omega)) (by intro u hu; simp at hu; subst hu; rfl) (by unfold maxLen; omega) (by omega) (by have := HR.out.1.2.1.size; simp; omega) ?_
             intro v1 w1 hown1 hg1 hv1
             have H1 := Lib.hid (And.intro hown1 hg1)
             clear hown1 hg1 hv1))
        exact ⟨⟨k + 1, by omega, by go_num, shRel_next HR.out.1 (by go_grown) HR.out.2.1 (by unfold showB; rw [if_neg (by omega)]; rfl) H1.out.1 H1.out.2⟩, by simp [intOf]; omega⟩
      · by_cases hm1 : m < 15
        · obtain ⟨mn, rfl⟩ := Int.eq_ofNat_of_zero_le (show 0 ≤ m by omega)
          have t0 : decide ((mn : Int) < 0) = false := by simp
          have t1 : decide ((15 : Int) ≤ (mn : Int)) = false := by simp; omega
          have t3 : (mn : Int) < 15 := by omega
          have hmn : mn < 15 := by omega
          obtain ⟨c0, hc0⟩ : ∃ c0, LET[mn]? = some c0 := ⟨_, List.getElem?_eq_getElem hmn⟩
          have hL : ∃ h : mn < (ByteArray.mk #[84, 67, 80, 79, 83, 68, 66, 86, 73, 65, 82, 69, 76, 88, 35]).size, (ByteArray.mk #[84, 67, 80, 79, 83, 68, 66, 86, 73, 65, 82, 69, 76, 88, 35])[mn]'h = c0 := by
            obtain ⟨h1, h2⟩ := List.getElem?_eq_some_iff.1 hc0
            exact ⟨hmn, h2⟩
          obtain ⟨hL1, hL2⟩ := hL
          have HC := Lib.hid hc0
          clear hc0
          go_wp2_with (first
          | (at_builtin
             refine wpList_append_rd rfl (.tmp 26) (.tmp 30) 54 rfl w.heap.size 5 i0 _ 1 1 Try.underlying54 hi hz0 hz1 hz2 rfl (by decide) u3 k (bvals ((shL fl).take k)) rfl ((HR.out.1.1.alloc _).alloc _) (.slice (some ⟨wr.heap.size + 1, 0, none⟩) 1 1) 1 (wr.heap.size + 1 + 1) [.int .u8 (c0.toNat : Int)] rfl (by simpa using rd_new (wr.alloc (.cells #[.int .i64 (mn : Int), .int .i64 p] 38)) [.int .u8 (c0.toNat : Int)] 5 1 1 rfl (by omega)) (by intro u hu; simp at hu; subst hu; rfl) (by unfold maxLen; omega) (by omega) (by have := HR.out.1.2.1.size; simp; omega) ?_
             intro v1 w1 hown1 hg1 hv1
             have H1 := Lib.hid (And.intro hown1 hg1)
             clear hown1 hg1 hv1))
          exact ⟨⟨k + 1, by omega, by go_num, shRel_next HR.out.1 (by go_grown) HR.out.2.1 (by unfold showB; rw [if_pos (by omega)]; have := HC.out; simp [List.getD, this]) H1.out.1 H1.out.2⟩, by simp [intOf]; omega⟩
        · have t0 : decide (m < 0) = false := by simpa using hm0
          have t1 : decide (15 ≤ m) = true := by simp; omega
          go_wp2_with (first
          | (at_builtin
             refine wpList_append_rd rfl (.tmp 23) (.tmp 24) 54 rfl w.heap.size 5 i0 _ 1 1 Try.underlying54 hi hz0 hz1 hz2 rfl (by decide) u3 k (bvals ((shL fl).take k)) rfl ((HR.out.1.1.alloc _).alloc _) (.slice (some ⟨wr.heap.size + 1, 0, none⟩) 1 1) 1 (wr.heap.size + 1 + 1) [.int .u8 63] rfl (by simpa using rd_new (wr.alloc (.cells #[.int .i64 m, .int .i64 p] 38)) [.int .u8 63] 5 1 1 rfl (by omega)) (by intro u hu; simp at hu; subst hu; rfl) (by unfold maxLen; omega) (by omega) (by have := HR.out.1.2.1.size; simp; omega) ?_
             intro v1 w1 hown1 hg1 hv1
             have H1 := Lib.hid (And.intro hown1 hg1)
             clear hown1 hg1 hv1))
          exact ⟨⟨k + 1, by omega, by go_num, shRel_next HR.out.1 (by go_grown) HR.out.2.1 (by unfold showB; rw [if_neg (by omega)]; rfl) H1.out.1 H1.out.2⟩, by simp [intOf]; omega⟩
    · obtain ⟨hown, hbel, gg, cc, rfl⟩ := hR
      have hk2 : k = fl.length := by have := H.out.2; omega
      have hsl : (shL fl).length = k := by simp [shL, hk2]
      have hcells : ∀ j (hj : j < (shL fl).length), wr.cell? ((⟨gg, 0, none⟩ : Addr).add j) = some (.int .u8 ((shL fl)[j].toNat : Int)) := by
        intro j hj
        rw [Addr.add_lit, Nat.zero_add]
        refine own_cell hown j _ ?_
        rw [List.take_of_length_le (by omega), bvals, List.getElem?_map, List.getElem?_eq_getElem hj]
        rfl
      have hcv := run_convert_bytes_back (P := Try.prog) wr 54 9 5 ⟨gg, 0, none⟩ cc (shL fl) Try.underlying54 Try.underlying5 Try.underlying9 hcells
      rw [hsl] at hcv
      have HB := Lib.hid hbel
      clear hown hbel hk2 hsl hcells
      go_wp2
      go_ret
      exact ⟨rfl, HB.out⟩
end Go.Proofs.Ytailnilhhbjkmaa
