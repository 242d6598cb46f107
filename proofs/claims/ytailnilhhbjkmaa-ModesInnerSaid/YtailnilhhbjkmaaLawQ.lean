/- ModesQuoted: the walk. A text without a quote, put between quotes, leaves the stack as it was. -/
import Derived.Test.YtailnilhhbjkmaaLawA
import Derived.Test.YtailnilhhbjkmaaPl06e
namespace Go.Proofs.Ytailnilhhbjkmaa
open Go.RowKit
set_option linter.unusedVariables false
set_option linter.unusedSimpArgs false
theorem in_39 (l : List UInt8) (w : World) (hl : l.length ≤ 1000000) :
    Calls Try.prog 19 #[.int .u8 39, .string ⟨l.toArray⟩] w fun e w' => e = .returned (.bool (inL 39 l)) ∧ w = w' := in_c 39 l w hl
/-- The last frame of a row of frames. -/
theorem fr_top {w : World} {B g c n : Nat} {st : Stk} {d : UInt8} {p : Int} {r : Stk} {k : Nat} (h : Fr w B (.slice (some ⟨g, 0, none⟩) n c) st) (e : st = (d, p) :: r) (hn : n = r.length + 1) (hk : r.length = k) :
    w.cell? ⟨g, k * 2, none⟩ = some (.int .i64 (modeOf d)) ∧ w.cell? ⟨g, k * 2 + 1, none⟩ = some (.int .i64 p) := by
  subst e hn hk
  constructor
  · exact own_cell h _ _ (by rw [fcells_cons, List.getElem?_append_right (by rw [fcells_len]; omega), fcells_len]; simp)
  · exact own_cell h _ _ (by rw [fcells_cons, List.getElem?_append_right (by rw [fcells_len]; omega), fcells_len]; simp)
set_option maxHeartbeats 1000000 in
theorem quoted_0 (l t : List UInt8) (w : World) (d : UInt8) (p : Int) (r : Stk) (md : Int) (hl0 : l.length ≤ 100) (ht0 : t.length ≤ 100) (hmd : modeOf d = md) (h4 : md = 0)
    (hq : inL 39 t = false) (hst : (rAt l l.length).1 = (d, p) :: r) (hr : r.length ≤ 100) (hc : d.toNat = 84 ∨ d.toNat = 67 ∨ d.toNat = 80 ∨ d.toNat = 86) :
    Calls Try.prog 7 #[.string ⟨l.toArray⟩, .string ⟨t.toArray⟩] w fun e w' => e = .returned (.bool true) ∧ Below w.heap.size w w' := by
  have k1 : decide ((100 : Int) < (l.length : Int)) = false := by simp; omega
  have k2 : decide ((100 : Int) < (t.length : Int)) = false := by simp; omega
  have hn : (rAt l l.length).1.length = r.length + 1 := by rw [hst]; rfl
  have hq' : ∀ b ∈ t, b.toNat ≠ 39 := by
    intro b hb e
    have : inL 39 t = true := by unfold inL; rw [List.any_eq_true]; exact ⟨b, hb, by simpa using e⟩
    rw [hq] at this; cases this
  obtain ⟨q1, q2⟩ := quoted_law l t d p r hst hc hq'
  obtain ⟨l1, l2, e1, e2, n1, n2, q1, q2, q3⟩ : ∃ l1 l2 : List UInt8, ByteArray.mk l.toArray ++ ByteArray.mk #[39] ++ ByteArray.mk t.toArray = ⟨l1.toArray⟩ ∧ ByteArray.mk l.toArray ++ ByteArray.mk #[39] ++ ByteArray.mk t.toArray ++ ByteArray.mk #[39] = ⟨l2.toArray⟩ ∧
      l1.length ≤ 300 ∧ l2.length ≤ 300 ∧ (rAt l1 l1.length).1 = (83, (l.length : Int)) :: (d, p) :: r ∧ (rAt l2 l2.length).1 = (d, p) :: r ∧ (rAt l2 l2.length).2 = false := by
    have e1 : ByteArray.mk l.toArray ++ ByteArray.mk #[39] ++ ByteArray.mk t.toArray = ⟨(l ++ 39 :: t).toArray⟩ := by
      rw [show ByteArray.mk #[39] = ByteArray.mk [39].toArray from rfl, ba_append, ba_append]; simp
    refine ⟨l ++ 39 :: t, l ++ 39 :: (t ++ [39]), e1, ?_, by simp; omega, by simp; omega, ?_, ?_, ?_⟩
    · rw [e1, show ByteArray.mk #[39] = ByteArray.mk [39].toArray from rfl, ba_append]; simp
    · rw [q1, hst]
    · rw [q2, hst]
    · rw [q2]
  have q1n : (rAt l1 l1.length).1.length = r.length + 1 + 1 := by rw [q1]; rfl
  have q2n : (rAt l2 l2.length).1.length = r.length + 1 := by rw [q2]; rfl
  have HE := Lib.hid (And.intro e1 e2)
  have HN := Lib.hid (And.intro n1 n2)
  have HQ := Lib.hid (And.intro q1 (And.intro q1n (And.intro q2 (And.intro q2n q3))))
  have HS := Lib.hid (And.intro hst (And.intro hn (And.intro hmd h4)))
  have HI := Lib.hid hq
  clear e1 e2 n1 n2 q1 q1n q2 q2n q3 hst hn hq hq' hmd h4 hc
  go_enter Try.func7, Try.ntmps7
  go_wp2_with (first
    | (go_at_call 10
       refine (awake_c _).mono ?_
       rintro e w1 ⟨rfl, hb1⟩)
    | (go_at_call 19
       refine (in_39 _ _ (by omega)).mono ?_
       rintro e w2 ⟨rfl, rfl⟩
       rw [HI.out])
    | (go_at_call 11
       rw [HE.out.2]
       with_reducible refine (run_m l2 _ (by have := HN.out; omega)).mono ?_
       rintro e w4 ⟨g4, c4, rfl, hfr, hb4⟩
       rw [HQ.out.2.2.2.1, HQ.out.2.2.2.2]
       rw [HQ.out.2.2.2.1] at hfr
       have H4 := Lib.hid (And.intro hfr hb4)
       obtain ⟨x0, x1⟩ := fr_top (k := r.length + 1) (own_below H3.out.1 hb4) HQ.out.1 rfl rfl
       have x2 : modeOf 83 = 4 := by decide
       rw [x2] at x0
       clear hfr hb4)
    | (go_at_call 11
       rw [HE.out.1]
       with_reducible refine (run_m l1 _ (by have := HN.out; omega)).mono ?_
       rintro e w3 ⟨g3, c3, rfl, hfr, hb3⟩
       rw [HQ.out.2.1]
       rw [HQ.out.2.1] at hfr
       have H3 := Lib.hid (And.intro hfr hb3)
       clear hfr hb3 y0 y1)
    | (go_at_call 11
       with_reducible refine (run_m l _ (by omega)).mono ?_
       rintro e w2 ⟨g, c, rfl, hfr, hb2⟩
       rw [HS.out.2.1]
       rw [HS.out.2.1] at hfr
       obtain ⟨y0, y1⟩ := fr_top hfr HS.out.1 rfl rfl
       rw [HS.out.2.2.1, HS.out.2.2.2] at y0
       have H2 := Lib.hid (And.intro hfr (hb1.trans (hb2.mono hb1.size)))
       clear hfr hb2 hb1))
  go_loopw [11] (fun i wr => ∃ j : Nat, j ≤ r.length + 1 ∧ i = .int .i64 j ∧ Below w4.heap.size w4 wr) (fun i _ => r.length + 1 - (intOf i).toNat)
  case atStart => exact ⟨0, by omega, rfl, Below.refl _ _⟩
  case round =>
    obtain ⟨j, hj, rfl, hb⟩ := hrel
    have HB := Lib.hid hb
    clear hb
    by_cases hlt : j < r.length + 1
    · have k3 : (0 : Int) ≤ (j : Int) := by omega
      have k4 : (j : Int) < (r.length : Int) + 1 := by omega
      have k5 : (j : Int) < (r.length : Int) + 1 + 1 := by omega
      have hjl : j < ((d, p) :: r).reverse.length := by simp; omega
      obtain ⟨⟨c0, p0⟩, hcp⟩ : ∃ x, ((d, p) :: r).reverse[j]? = some x := ⟨_, List.getElem?_eq_getElem hjl⟩
      obtain ⟨e1, e2⟩ := fcells_at ((d, p) :: r) j c0 p0 hcp
      obtain ⟨e3, e4⟩ := fcells_at ((83, (l.length : Int)) :: (d, p) :: r) j c0 p0 (by rw [List.reverse_cons, List.getElem?_append_left hjl]; exact hcp)
      have fa := H2.out.1
      have fb := H3.out.1
      have fc := H4.out.1
      rw [HS.out.1] at fa
      rw [HQ.out.1] at fb
      rw [HQ.out.2.2.1] at fc
      have b2 := (H3.out.2.trans (H4.out.2.mono H3.out.2.size)).trans (HB.out.mono (Nat.le_trans H3.out.2.size H4.out.2.size))
      have b3 := H4.out.2.trans (HB.out.mono H4.out.2.size)
      have fa' := own_below fa b2
      have fb' := own_below fb b3
      have fc' := own_below fc HB.out
      have d1 := own_cell fa' _ _ e1
      have d2 := own_cell fa' _ _ e2
      have d3 := own_cell fb' _ _ e3
      have d4 := own_cell fb' _ _ e4
      have d5 := own_cell fc' _ _ e1
      have d6 := own_cell fc' _ _ e2
      clear fa fb fc fa' fb' fc' b2 b3 e1 e2 e3 e4 hcp hjl
      generalize modeOf c0 = mo at d1 d3 d5
      go_wp2_with fail
      go_quiet (fail)
      go_wp2
      exact ⟨⟨j + 1, by omega, by go_num, below_drewN' HB.out _⟩, by simp [intOf]; omega⟩
    · go_wp2
      go_ret
      refine ⟨rfl, ?_⟩
      have q2 := H2.out.2
      have q3 := q2.trans (H3.out.2.mono q2.size)
      have q4 := q3.trans (H4.out.2.mono q3.size)
      exact q4.trans (HB.out.mono q4.size)
set_option maxHeartbeats 1000000 in
theorem quoted_1 (l t : List UInt8) (w : World) (d : UInt8) (p : Int) (r : Stk) (md : Int) (hl0 : l.length ≤ 100) (ht0 : t.length ≤ 100) (hmd : modeOf d = md) (h4 : md = 1)
    (hq : inL 39 t = false) (hst : (rAt l l.length).1 = (d, p) :: r) (hr : r.length ≤ 100) (hc : d.toNat = 84 ∨ d.toNat = 67 ∨ d.toNat = 80 ∨ d.toNat = 86) :
    Calls Try.prog 7 #[.string ⟨l.toArray⟩, .string ⟨t.toArray⟩] w fun e w' => e = .returned (.bool true) ∧ Below w.heap.size w w' := by
  have k1 : decide ((100 : Int) < (l.length : Int)) = false := by simp; omega
  have k2 : decide ((100 : Int) < (t.length : Int)) = false := by simp; omega
  have hn : (rAt l l.length).1.length = r.length + 1 := by rw [hst]; rfl
  have hq' : ∀ b ∈ t, b.toNat ≠ 39 := by
    intro b hb e
    have : inL 39 t = true := by unfold inL; rw [List.any_eq_true]; exact ⟨b, hb, by simpa using e⟩
    rw [hq] at this; cases this
  obtain ⟨q1, q2⟩ := quoted_law l t d p r hst hc hq'
  obtain ⟨l1, l2, e1, e2, n1, n2, q1, q2, q3⟩ : ∃ l1 l2 : List UInt8, ByteArray.mk l.toArray ++ ByteArray.mk #[39] ++ ByteArray.mk t.toArray = ⟨l1.toArray⟩ ∧ ByteArray.mk l.toArray ++ ByteArray.mk #[39] ++ ByteArray.mk t.toArray ++ ByteArray.mk #[39] = ⟨l2.toArray⟩ ∧
      l1.length ≤ 300 ∧ l2.length ≤ 300 ∧ (rAt l1 l1.length).1 = (83, (l.length : Int)) :: (d, p) :: r ∧ (rAt l2 l2.length).1 = (d, p) :: r ∧ (rAt l2 l2.length).2 = false := by
    have e1 : ByteArray.mk l.toArray ++ ByteArray.mk #[39] ++ ByteArray.mk t.toArray = ⟨(l ++ 39 :: t).toArray⟩ := by
      rw [show ByteArray.mk #[39] = ByteArray.mk [39].toArray from rfl, ba_append, ba_append]; simp
    refine ⟨l ++ 39 :: t, l ++ 39 :: (t ++ [39]), e1, ?_, by simp; omega, by simp; omega, ?_, ?_, ?_⟩
    · rw [e1, show ByteArray.mk #[39] = ByteArray.mk [39].toArray from rfl, ba_append]; simp
    · rw [q1, hst]
    · rw [q2, hst]
    · rw [q2]
  have q1n : (rAt l1 l1.length).1.length = r.length + 1 + 1 := by rw [q1]; rfl
  have q2n : (rAt l2 l2.length).1.length = r.length + 1 := by rw [q2]; rfl
  have HE := Lib.hid (And.intro e1 e2)
  have HN := Lib.hid (And.intro n1 n2)
  have HQ := Lib.hid (And.intro q1 (And.intro q1n (And.intro q2 (And.intro q2n q3))))
  have HS := Lib.hid (And.intro hst (And.intro hn (And.intro hmd h4)))
  have HI := Lib.hid hq
  clear e1 e2 n1 n2 q1 q1n q2 q2n q3 hst hn hq hq' hmd h4 hc
  go_enter Try.func7, Try.ntmps7
  go_wp2_with (first
    | (go_at_call 10
       refine (awake_c _).mono ?_
       rintro e w1 ⟨rfl, hb1⟩)
    | (go_at_call 19
       refine (in_39 _ _ (by omega)).mono ?_
       rintro e w2 ⟨rfl, rfl⟩
       rw [HI.out])
    | (go_at_call 11
       rw [HE.out.2]
       with_reducible refine (run_m l2 _ (by have := HN.out; omega)).mono ?_
       rintro e w4 ⟨g4, c4, rfl, hfr, hb4⟩
       rw [HQ.out.2.2.2.1, HQ.out.2.2.2.2]
       rw [HQ.out.2.2.2.1] at hfr
       have H4 := Lib.hid (And.intro hfr hb4)
       obtain ⟨x0, x1⟩ := fr_top (k := r.length + 1) (own_below H3.out.1 hb4) HQ.out.1 rfl rfl
       have x2 : modeOf 83 = 4 := by decide
       rw [x2] at x0
       clear hfr hb4)
    | (go_at_call 11
       rw [HE.out.1]
       with_reducible refine (run_m l1 _ (by have := HN.out; omega)).mono ?_
       rintro e w3 ⟨g3, c3, rfl, hfr, hb3⟩
       rw [HQ.out.2.1]
       rw [HQ.out.2.1] at hfr
       have H3 := Lib.hid (And.intro hfr hb3)
       clear hfr hb3 y0 y1)
    | (go_at_call 11
       with_reducible refine (run_m l _ (by omega)).mono ?_
       rintro e w2 ⟨g, c, rfl, hfr, hb2⟩
       rw [HS.out.2.1]
       rw [HS.out.2.1] at hfr
       obtain ⟨y0, y1⟩ := fr_top hfr HS.out.1 rfl rfl
       rw [HS.out.2.2.1, HS.out.2.2.2] at y0
       have H2 := Lib.hid (And.intro hfr (hb1.trans (hb2.mono hb1.size)))
       clear hfr hb2 hb1))
  go_loopw [11] (fun i wr => ∃ j : Nat, j ≤ r.length + 1 ∧ i = .int .i64 j ∧ Below w4.heap.size w4 wr) (fun i _ => r.length + 1 - (intOf i).toNat)
  case atStart => exact ⟨0, by omega, rfl, Below.refl _ _⟩
  case round =>
    obtain ⟨j, hj, rfl, hb⟩ := hrel
    have HB := Lib.hid hb
    clear hb
    by_cases hlt : j < r.length + 1
    · have k3 : (0 : Int) ≤ (j : Int) := by omega
      have k4 : (j : Int) < (r.length : Int) + 1 := by omega
      have k5 : (j : Int) < (r.length : Int) + 1 + 1 := by omega
      have hjl : j < ((d, p) :: r).reverse.length := by simp; omega
      obtain ⟨⟨c0, p0⟩, hcp⟩ : ∃ x, ((d, p) :: r).reverse[j]? = some x := ⟨_, List.getElem?_eq_getElem hjl⟩
      obtain ⟨e1, e2⟩ := fcells_at ((d, p) :: r) j c0 p0 hcp
      obtain ⟨e3, e4⟩ := fcells_at ((83, (l.length : Int)) :: (d, p) :: r) j c0 p0 (by rw [List.reverse_cons, List.getElem?_append_left hjl]; exact hcp)
      have fa := H2.out.1
      have fb := H3.out.1
      have fc := H4.out.1
      rw [HS.out.1] at fa
      rw [HQ.out.1] at fb
      rw [HQ.out.2.2.1] at fc
      have b2 := (H3.out.2.trans (H4.out.2.mono H3.out.2.size)).trans (HB.out.mono (Nat.le_trans H3.out.2.size H4.out.2.size))
      have b3 := H4.out.2.trans (HB.out.mono H4.out.2.size)
      have fa' := own_below fa b2
      have fb' := own_below fb b3
      have fc' := own_below fc HB.out
      have d1 := own_cell fa' _ _ e1
      have d2 := own_cell fa' _ _ e2
      have d3 := own_cell fb' _ _ e3
      have d4 := own_cell fb' _ _ e4
      have d5 := own_cell fc' _ _ e1
      have d6 := own_cell fc' _ _ e2
      clear fa fb fc fa' fb' fc' b2 b3 e1 e2 e3 e4 hcp hjl
      generalize modeOf c0 = mo at d1 d3 d5
      go_wp2_with fail
      go_quiet (fail)
      go_wp2
      exact ⟨⟨j + 1, by omega, by go_num, below_drewN' HB.out _⟩, by simp [intOf]; omega⟩
    · go_wp2
      go_ret
      refine ⟨rfl, ?_⟩
      have q2 := H2.out.2
      have q3 := q2.trans (H3.out.2.mono q2.size)
      have q4 := q3.trans (H4.out.2.mono q3.size)
      exact q4.trans (HB.out.mono q4.size)
set_option maxHeartbeats 1000000 in
theorem quoted_2 (l t : List UInt8) (w : World) (d : UInt8) (p : Int) (r : Stk) (md : Int) (hl0 : l.length ≤ 100) (ht0 : t.length ≤ 100) (hmd : modeOf d = md) (h4 : md = 2)
    (hq : inL 39 t = false) (hst : (rAt l l.length).1 = (d, p) :: r) (hr : r.length ≤ 100) (hc : d.toNat = 84 ∨ d.toNat = 67 ∨ d.toNat = 80 ∨ d.toNat = 86) :
    Calls Try.prog 7 #[.string ⟨l.toArray⟩, .string ⟨t.toArray⟩] w fun e w' => e = .returned (.bool true) ∧ Below w.heap.size w w' := by
  have k1 : decide ((100 : Int) < (l.length : Int)) = false := by simp; omega
  have k2 : decide ((100 : Int) < (t.length : Int)) = false := by simp; omega
  have hn : (rAt l l.length).1.length = r.length + 1 := by rw [hst]; rfl
  have hq' : ∀ b ∈ t, b.toNat ≠ 39 := by
    intro b hb e
    have : inL 39 t = true := by unfold inL; rw [List.any_eq_true]; exact ⟨b, hb, by simpa using e⟩
    rw [hq] at this; cases this
  obtain ⟨q1, q2⟩ := quoted_law l t d p r hst hc hq'
  obtain ⟨l1, l2, e1, e2, n1, n2, q1, q2, q3⟩ : ∃ l1 l2 : List UInt8, ByteArray.mk l.toArray ++ ByteArray.mk #[39] ++ ByteArray.mk t.toArray = ⟨l1.toArray⟩ ∧ ByteArray.mk l.toArray ++ ByteArray.mk #[39] ++ ByteArray.mk t.toArray ++ ByteArray.mk #[39] = ⟨l2.toArray⟩ ∧
      l1.length ≤ 300 ∧ l2.length ≤ 300 ∧ (rAt l1 l1.length).1 = (83, (l.length : Int)) :: (d, p) :: r ∧ (rAt l2 l2.length).1 = (d, p) :: r ∧ (rAt l2 l2.length).2 = false := by
    have e1 : ByteArray.mk l.toArray ++ ByteArray.mk #[39] ++ ByteArray.mk t.toArray = ⟨(l ++ 39 :: t).toArray⟩ := by
      rw [show ByteArray.mk #[39] = ByteArray.mk [39].toArray from rfl, ba_append, ba_append]; simp
    refine ⟨l ++ 39 :: t, l ++ 39 :: (t ++ [39]), e1, ?_, by simp; omega, by simp; omega, ?_, ?_, ?_⟩
    · rw [e1, show ByteArray.mk #[39] = ByteArray.mk [39].toArray from rfl, ba_append]; simp
    · rw [q1, hst]
    · rw [q2, hst]
    · rw [q2]
  have q1n : (rAt l1 l1.length).1.length = r.length + 1 + 1 := by rw [q1]; rfl
  have q2n : (rAt l2 l2.length).1.length = r.length + 1 := by rw [q2]; rfl
  have HE := Lib.hid (And.intro e1 e2)
  have HN := Lib.hid (And.intro n1 n2)
  have HQ := Lib.hid (And.intro q1 (And.intro q1n (And.intro q2 (And.intro q2n q3))))
  have HS := Lib.hid (And.intro hst (And.intro hn (And.intro hmd h4)))
  have HI := Lib.hid hq
  clear e1 e2 n1 n2 q1 q1n q2 q2n q3 hst hn hq hq' hmd h4 hc
  go_enter Try.func7, Try.ntmps7
  go_wp2_with (first
    | (go_at_call 10
       refine (awake_c _).mono ?_
       rintro e w1 ⟨rfl, hb1⟩)
    | (go_at_call 19
       refine (in_39 _ _ (by omega)).mono ?_
       rintro e w2 ⟨rfl, rfl⟩
       rw [HI.out])
    | (go_at_call 11
       rw [HE.out.2]
       with_reducible refine (run_m l2 _ (by have := HN.out; omega)).mono ?_
       rintro e w4 ⟨g4, c4, rfl, hfr, hb4⟩
       rw [HQ.out.2.2.2.1, HQ.out.2.2.2.2]
       rw [HQ.out.2.2.2.1] at hfr
       have H4 := Lib.hid (And.intro hfr hb4)
       obtain ⟨x0, x1⟩ := fr_top (k := r.length + 1) (own_below H3.out.1 hb4) HQ.out.1 rfl rfl
       have x2 : modeOf 83 = 4 := by decide
       rw [x2] at x0
       clear hfr hb4)
    | (go_at_call 11
       rw [HE.out.1]
       with_reducible refine (run_m l1 _ (by have := HN.out; omega)).mono ?_
       rintro e w3 ⟨g3, c3, rfl, hfr, hb3⟩
       rw [HQ.out.2.1]
       rw [HQ.out.2.1] at hfr
       have H3 := Lib.hid (And.intro hfr hb3)
       clear hfr hb3 y0 y1)
    | (go_at_call 11
       with_reducible refine (run_m l _ (by omega)).mono ?_
       rintro e w2 ⟨g, c, rfl, hfr, hb2⟩
       rw [HS.out.2.1]
       rw [HS.out.2.1] at hfr
       obtain ⟨y0, y1⟩ := fr_top hfr HS.out.1 rfl rfl
       rw [HS.out.2.2.1, HS.out.2.2.2] at y0
       have H2 := Lib.hid (And.intro hfr (hb1.trans (hb2.mono hb1.size)))
       clear hfr hb2 hb1))
  go_loopw [11] (fun i wr => ∃ j : Nat, j ≤ r.length + 1 ∧ i = .int .i64 j ∧ Below w4.heap.size w4 wr) (fun i _ => r.length + 1 - (intOf i).toNat)
  case atStart => exact ⟨0, by omega, rfl, Below.refl _ _⟩
  case round =>
    obtain ⟨j, hj, rfl, hb⟩ := hrel
    have HB := Lib.hid hb
    clear hb
    by_cases hlt : j < r.length + 1
    · have k3 : (0 : Int) ≤ (j : Int) := by omega
      have k4 : (j : Int) < (r.length : Int) + 1 := by omega
      have k5 : (j : Int) < (r.length : Int) + 1 + 1 := by omega
      have hjl : j < ((d, p) :: r).reverse.length := by simp; omega
      obtain ⟨⟨c0, p0⟩, hcp⟩ : ∃ x, ((d, p) :: r).reverse[j]? = some x := ⟨_, List.getElem?_eq_getElem hjl⟩
      obtain ⟨e1, e2⟩ := fcells_at ((d, p) :: r) j c0 p0 hcp
      obtain ⟨e3, e4⟩ := fcells_at ((83, (l.length : Int)) :: (d, p) :: r) j c0 p0 (by rw [List.reverse_cons, List.getElem?_append_left hjl]; exact hcp)
      have fa := H2.out.1
      have fb := H3.out.1
      have fc := H4.out.1
      rw [HS.out.1] at fa
      rw [HQ.out.1] at fb
      rw [HQ.out.2.2.1] at fc
      have b2 := (H3.out.2.trans (H4.out.2.mono H3.out.2.size)).trans (HB.out.mono (Nat.le_trans H3.out.2.size H4.out.2.size))
      have b3 := H4.out.2.trans (HB.out.mono H4.out.2.size)
      have fa' := own_below fa b2
      have fb' := own_below fb b3
      have fc' := own_below fc HB.out
      have d1 := own_cell fa' _ _ e1
      have d2 := own_cell fa' _ _ e2
      have d3 := own_cell fb' _ _ e3
      have d4 := own_cell fb' _ _ e4
      have d5 := own_cell fc' _ _ e1
      have d6 := own_cell fc' _ _ e2
      clear fa fb fc fa' fb' fc' b2 b3 e1 e2 e3 e4 hcp hjl
      generalize modeOf c0 = mo at d1 d3 d5
      go_wp2_with fail
      go_quiet (fail)
      go_wp2
      exact ⟨⟨j + 1, by omega, by go_num, below_drewN' HB.out _⟩, by simp [intOf]; omega⟩
    · go_wp2
      go_ret
      refine ⟨rfl, ?_⟩
      have q2 := H2.out.2
      have q3 := q2.trans (H3.out.2.mono q2.size)
      have q4 := q3.trans (H4.out.2.mono q3.size)
      exact q4.trans (HB.out.mono q4.size)
set_option maxHeartbeats 1000000 in
theorem quoted_7 (l t : List UInt8) (w : World) (d : UInt8) (p : Int) (r : Stk) (md : Int) (hl0 : l.length ≤ 100) (ht0 : t.length ≤ 100) (hmd : modeOf d = md) (h4 : md = 7)
    (hq : inL 39 t = false) (hst : (rAt l l.length).1 = (d, p) :: r) (hr : r.length ≤ 100) (hc : d.toNat = 84 ∨ d.toNat = 67 ∨ d.toNat = 80 ∨ d.toNat = 86) :
    Calls Try.prog 7 #[.string ⟨l.toArray⟩, .string ⟨t.toArray⟩] w fun e w' => e = .returned (.bool true) ∧ Below w.heap.size w w' := by
  have k1 : decide ((100 : Int) < (l.length : Int)) = false := by simp; omega
  have k2 : decide ((100 : Int) < (t.length : Int)) = false := by simp; omega
  have hn : (rAt l l.length).1.length = r.length + 1 := by rw [hst]; rfl
  have hq' : ∀ b ∈ t, b.toNat ≠ 39 := by
    intro b hb e
    have : inL 39 t = true := by unfold inL; rw [List.any_eq_true]; exact ⟨b, hb, by simpa using e⟩
    rw [hq] at this; cases this
  obtain ⟨q1, q2⟩ := quoted_law l t d p r hst hc hq'
  obtain ⟨l1, l2, e1, e2, n1, n2, q1, q2, q3⟩ : ∃ l1 l2 : List UInt8, ByteArray.mk l.toArray ++ ByteArray.mk #[39] ++ ByteArray.mk t.toArray = ⟨l1.toArray⟩ ∧ ByteArray.mk l.toArray ++ ByteArray.mk #[39] ++ ByteArray.mk t.toArray ++ ByteArray.mk #[39] = ⟨l2.toArray⟩ ∧
      l1.length ≤ 300 ∧ l2.length ≤ 300 ∧ (rAt l1 l1.length).1 = (83, (l.length : Int)) :: (d, p) :: r ∧ (rAt l2 l2.length).1 = (d, p) :: r ∧ (rAt l2 l2.length).2 = false := by
    have e1 : ByteArray.mk l.toArray ++ ByteArray.mk #[39] ++ ByteArray.mk t.toArray = ⟨(l ++ 39 :: t).toArray⟩ := by
      rw [show ByteArray.mk #[39] = ByteArray.mk [39].toArray from rfl, ba_append, ba_append]; simp
    refine ⟨l ++ 39 :: t, l ++ 39 :: (t ++ [39]), e1, ?_, by simp; omega, by simp; omega, ?_, ?_, ?_⟩
    · rw [e1, show ByteArray.mk #[39] = ByteArray.mk [39].toArray from rfl, ba_append]; simp
    · rw [q1, hst]
    · rw [q2, hst]
    · rw [q2]
  have q1n : (rAt l1 l1.length).1.length = r.length + 1 + 1 := by rw [q1]; rfl
  have q2n : (rAt l2 l2.length).1.length = r.length + 1 := by rw [q2]; rfl
  have HE := Lib.hid (And.intro e1 e2)
  have HN := Lib.hid (And.intro n1 n2)
  have HQ := Lib.hid (And.intro q1 (And.intro q1n (And.intro q2 (And.intro q2n q3))))
  have HS := Lib.hid (And.intro hst (And.intro hn (And.intro hmd h4)))
  have HI := Lib.hid hq
  clear e1 e2 n1 n2 q1 q1n q2 q2n q3 hst hn hq hq' hmd h4 hc
  go_enter Try.func7, Try.ntmps7
  go_wp2_with (first
    | (go_at_call 10
       refine (awake_c _).mono ?_
       rintro e w1 ⟨rfl, hb1⟩)
    | (go_at_call 19
       refine (in_39 _ _ (by omega)).mono ?_
       rintro e w2 ⟨rfl, rfl⟩
       rw [HI.out])
    | (go_at_call 11
       rw [HE.out.2]
       with_reducible refine (run_m l2 _ (by have := HN.out; omega)).mono ?_
       rintro e w4 ⟨g4, c4, rfl, hfr, hb4⟩
       rw [HQ.out.2.2.2.1, HQ.out.2.2.2.2]
       rw [HQ.out.2.2.2.1] at hfr
       have H4 := Lib.hid (And.intro hfr hb4)
       obtain ⟨x0, x1⟩ := fr_top (k := r.length + 1) (own_below H3.out.1 hb4) HQ.out.1 rfl rfl
       have x2 : modeOf 83 = 4 := by decide
       rw [x2] at x0
       clear hfr hb4)
    | (go_at_call 11
       rw [HE.out.1]
       with_reducible refine (run_m l1 _ (by have := HN.out; omega)).mono ?_
       rintro e w3 ⟨g3, c3, rfl, hfr, hb3⟩
       rw [HQ.out.2.1]
       rw [HQ.out.2.1] at hfr
       have H3 := Lib.hid (And.intro hfr hb3)
       clear hfr hb3 y0 y1)
    | (go_at_call 11
       with_reducible refine (run_m l _ (by omega)).mono ?_
       rintro e w2 ⟨g, c, rfl, hfr, hb2⟩
       rw [HS.out.2.1]
       rw [HS.out.2.1] at hfr
       obtain ⟨y0, y1⟩ := fr_top hfr HS.out.1 rfl rfl
       rw [HS.out.2.2.1, HS.out.2.2.2] at y0
       have H2 := Lib.hid (And.intro hfr (hb1.trans (hb2.mono hb1.size)))
       clear hfr hb2 hb1))
  go_loopw [11] (fun i wr => ∃ j : Nat, j ≤ r.length + 1 ∧ i = .int .i64 j ∧ Below w4.heap.size w4 wr) (fun i _ => r.length + 1 - (intOf i).toNat)
  case atStart => exact ⟨0, by omega, rfl, Below.refl _ _⟩
  case round =>
    obtain ⟨j, hj, rfl, hb⟩ := hrel
    have HB := Lib.hid hb
    clear hb
    by_cases hlt : j < r.length + 1
    · have k3 : (0 : Int) ≤ (j : Int) := by omega
      have k4 : (j : Int) < (r.length : Int) + 1 := by omega
      have k5 : (j : Int) < (r.length : Int) + 1 + 1 := by omega
      have hjl : j < ((d, p) :: r).reverse.length := by simp; omega
      obtain ⟨⟨c0, p0⟩, hcp⟩ : ∃ x, ((d, p) :: r).reverse[j]? = some x := ⟨_, List.getElem?_eq_getElem hjl⟩
      obtain ⟨e1, e2⟩ := fcells_at ((d, p) :: r) j c0 p0 hcp
      obtain ⟨e3, e4⟩ := fcells_at ((83, (l.length : Int)) :: (d, p) :: r) j c0 p0 (by rw [List.reverse_cons, List.getElem?_append_left hjl]; exact hcp)
      have fa := H2.out.1
      have fb := H3.out.1
      have fc := H4.out.1
      rw [HS.out.1] at fa
      rw [HQ.out.1] at fb
      rw [HQ.out.2.2.1] at fc
      have b2 := (H3.out.2.trans (H4.out.2.mono H3.out.2.size)).trans (HB.out.mono (Nat.le_trans H3.out.2.size H4.out.2.size))
      have b3 := H4.out.2.trans (HB.out.mono H4.out.2.size)
      have fa' := own_below fa b2
      have fb' := own_below fb b3
      have fc' := own_below fc HB.out
      have d1 := own_cell fa' _ _ e1
      have d2 := own_cell fa' _ _ e2
      have d3 := own_cell fb' _ _ e3
      have d4 := own_cell fb' _ _ e4
      have d5 := own_cell fc' _ _ e1
      have d6 := own_cell fc' _ _ e2
      clear fa fb fc fa' fb' fc' b2 b3 e1 e2 e3 e4 hcp hjl
      generalize modeOf c0 = mo at d1 d3 d5
      go_wp2_with fail
      go_quiet (fail)
      go_wp2
      exact ⟨⟨j + 1, by omega, by go_num, below_drewN' HB.out _⟩, by simp [intOf]; omega⟩
    · go_wp2
      go_ret
      refine ⟨rfl, ?_⟩
      have q2 := H2.out.2
      have q3 := q2.trans (H3.out.2.mono q2.size)
      have q4 := q3.trans (H4.out.2.mono q3.size)
      exact q4.trans (HB.out.mono q4.size)
set_option maxHeartbeats 1000000 in
theorem modesQuoted_w (l t : List UInt8) (w : World) (hm : l.length ≤ 9223372036854775807) (hm2 : t.length ≤ 9223372036854775807) :
    Calls Try.prog 7 #[.string ⟨l.toArray⟩, .string ⟨t.toArray⟩] w fun e w' => e = .returned (.bool true) ∧ Below w.heap.size w w' := by
  by_cases hl : 100 < l.length
  · go_enter Try.func7, Try.ntmps7
    go_wp2_with (go_at_call 10; refine (awake_c _).mono ?_; rintro e w1 ⟨rfl, hb1⟩)
    go_ret
    exact ⟨rfl, hb1⟩
  by_cases ht : 100 < t.length
  · go_enter Try.func7, Try.ntmps7
    go_wp2_with (go_at_call 10; refine (awake_c _).mono ?_; rintro e w1 ⟨rfl, hb1⟩)
    go_ret
    exact ⟨rfl, hb1⟩
  have hl0 : l.length ≤ 100 := by omega
  have ht0 : t.length ≤ 100 := by omega
  have k1 : decide ((100 : Int) < (l.length : Int)) = false := by simp; omega
  have k2 : decide ((100 : Int) < (t.length : Int)) = false := by simp; omega
  cases hq : inL 39 t
  · have hbot := rAt_bot l l.length
    have hlen := rAt_len l l.length
    obtain ⟨d, p, r, hst⟩ : ∃ d p r, (rAt l l.length).1 = (d, p) :: r := by
      match h : (rAt l l.length).1, hbot.ne with
      | (d, p) :: r, _ => exact ⟨d, p, r, rfl⟩
    have hr : r.length ≤ 100 := by rw [hst] at hlen; simp at hlen; omega
    have hn : (rAt l l.length).1.length = r.length + 1 := by rw [hst]; rfl
    have HS := Lib.hid (And.intro hst hn)
    clear hst hn hbot hlen
    have HQ := Lib.hid hq
    clear hl ht hm hm2
    by_cases hc : d.toNat = 84 ∨ d.toNat = 67 ∨ d.toNat = 80 ∨ d.toNat = 86
    · rcases hc with h | h | h | h
      · exact quoted_0 l t w d p r _ hl0 ht0 rfl (by unfold modeOf; simp [h]) HQ.out HS.out.1 hr (by omega)
      · exact quoted_1 l t w d p r _ hl0 ht0 rfl (by unfold modeOf; simp [h]) HQ.out HS.out.1 hr (by omega)
      · exact quoted_2 l t w d p r _ hl0 ht0 rfl (by unfold modeOf; simp [h]) HQ.out HS.out.1 hr (by omega)
      · exact quoted_7 l t w d p r _ hl0 ht0 rfl (by unfold modeOf; simp [h]) HQ.out HS.out.1 hr (by omega)
    · have hmd : ((modeOf d : Int) == 0) = false ∧ ((modeOf d : Int) == 1) = false ∧ ((modeOf d : Int) == 2) = false ∧ ((modeOf d : Int) == 7) = false := by
        have := byte_all (fun d => d.toNat == 84 || d.toNat == 67 || d.toNat == 80 || d.toNat == 86 || ((modeOf d : Int) == 0) == false && ((modeOf d : Int) == 1) == false && ((modeOf d : Int) == 2) == false && ((modeOf d : Int) == 7) == false) (by decide +kernel) d
        simpa [hc, or_assoc, and_assoc, not_or.1 hc |>.1, (not_or.1 (not_or.1 hc).2).1, (not_or.1 (not_or.1 (not_or.1 hc).2).2).1, (not_or.1 (not_or.1 (not_or.1 hc).2).2).2] using this
      obtain ⟨m0, m1, m2, m3⟩ := hmd
      have HC := Lib.hid hc
      clear hc
      go_enter Try.func7, Try.ntmps7
      go_wp2_with (first
        | (go_at_call 10
           refine (awake_c _).mono ?_
           rintro e w1 ⟨rfl, hb1⟩)
        | (go_at_call 19
           refine (in_39 _ _ (by omega)).mono ?_
           rintro e w2 ⟨rfl, rfl⟩
           rw [HQ.out])
        | (go_at_call 11
           refine (run_m l _ (by omega)).mono ?_
           rintro e w2 ⟨g, c, rfl, hfr, hb2⟩
           rw [HS.out.2]
           rw [HS.out.2] at hfr
           obtain ⟨y0, y1⟩ := fr_top hfr HS.out.1 rfl rfl
           have H2 := Lib.hid (And.intro hfr (hb1.trans (hb2.mono hb1.size)))
           clear hfr hb2 hb1))
      go_ret
      exact ⟨rfl, H2.out.2⟩
  · go_enter Try.func7, Try.ntmps7
    go_wp2_with (first
      | (go_at_call 10
         refine (awake_c _).mono ?_
         rintro e w1 ⟨rfl, hb1⟩)
      | (go_at_call 19
         refine (in_39 _ _ (by omega)).mono ?_
         rintro e w2 ⟨rfl, rfl⟩
         rw [hq]))
    go_ret
    exact ⟨rfl, hb1⟩
end Go.Proofs.Ytailnilhhbjkmaa
