/- ModesInner: the walk. Behind a substitution's beginning all is as at a program's beginning, whatever stands ahead. -/
import Derived.Test.YtailnilhhbjkmaaLawQ
import Derived.Test.YtailnilhhbjkmaaPl06g
import Derived.IntWalk
namespace Go.Proofs.Ytailnilhhbjkmaa
open Go.RowKit
set_option linter.unusedVariables false
set_option linter.unusedSimpArgs false
theorem in_41 (l : List UInt8) (w : World) (hl : l.length ≤ 1000000) :
    Calls Try.prog 19 #[.int .u8 41, .string ⟨l.toArray⟩] w fun e w' => e = .returned (.bool (inL 41 l)) ∧ w = w' := in_c 41 l w hl
/-- What is known of the three stacks: a ahead, b of the substitution alone, c of both. -/
structure In3 (l t l1 l2 : List UInt8) (a x : Stk) (f : Bool) (na nb nc : Nat) : Prop where
  n1 : l1.length ≤ 300
  n2 : l2.length ≤ 300
  ea : (rAt l l.length).1 = a
  ena : (rAt l l.length).1.length = na
  eb : (rAt l1 l1.length).1 = x ++ [(84, 0)]
  enb : (rAt l1 l1.length).1.length = nb
  ebf : (rAt l1 l1.length).2 = f
  ec : (rAt l2 l2.length).1 = sh (l.length : Int) x ++ a
  enc : (rAt l2 l2.length).1.length = nc
  ecf : (rAt l2 l2.length).2 = f
  hna : a.length = na
  hnb : nb = x.length + 1
  hnc : nc = na + x.length
  s1 : ByteArray.mk #[36, 40] ++ ByteArray.mk t.toArray = ⟨l1.toArray⟩
  s2 : ByteArray.mk l.toArray ++ ByteArray.mk #[36, 40] ++ ByteArray.mk t.toArray = ⟨l2.toArray⟩
theorem in3_of (l t : List UInt8) (d : UInt8) (p : Int) (r : Stk) (hl0 : l.length ≤ 100) (ht0 : t.length ≤ 100) (hq : inL 41 t = false) (hst : (rAt l l.length).1 = (d, p) :: r) (hc : DolB d = true) :
    ∃ l1 l2 x f na nb nc, In3 l t l1 l2 ((d, p) :: r) x f na nb nc ∧ 2 ≤ nb ∧ nb ≤ 300 ∧ 1 ≤ na ∧ na ≤ 300 ∧ nc + 1 = na + nb := by
  have hq' : ∀ b ∈ t, b.toNat ≠ 41 := by
    intro b hb e
    have : inL 41 t = true := by unfold inL; rw [List.any_eq_true]; exact ⟨b, hb, by simpa using e⟩
    rw [hq] at this; cases this
  obtain ⟨x, f, hx, e1, e2⟩ := inner_law l t d p r hst hc hq'
  have hb := rAt_len (36 :: 40 :: t) (36 :: 40 :: t).length
  rw [e1] at hb
  have ha := rAt_len l l.length
  rw [hst] at ha
  simp at hb ha
  have hx1 : 1 ≤ x.length := List.length_pos_iff.2 hx
  refine ⟨36 :: 40 :: t, l ++ 36 :: 40 :: t, x, f, r.length + 1, x.length + 1, r.length + 1 + x.length, ⟨by simp; omega, by simp; omega, hst, by rw [hst]; rfl, by rw [e1], by rw [e1]; simp, by rw [e1], by rw [e2, hst], by rw [e2, hst]; simp [sh]; omega, by rw [e2], rfl, rfl, rfl, ?_, ?_⟩, by omega, by omega, by omega, by omega, by omega⟩
  · rw [show ByteArray.mk #[36, 40] = ByteArray.mk [36, 40].toArray from rfl, ba_append]; rfl
  · rw [show ByteArray.mk #[36, 40] = ByteArray.mk [36, 40].toArray from rfl, ba_append, ba_append]; simp
set_option maxHeartbeats 2000000 in
theorem inner_0 (l t l1 l2 : List UInt8) (w : World) (d : UInt8) (p : Int) (r x : Stk) (f : Bool) (na nb nc : Nat) (md : Int) (hl0 : l.length ≤ 100) (ht0 : t.length ≤ 100) (hmd : modeOf d = md) (h4 : md = 0)
    (hq : inL 41 t = false) (h3 : In3 l t l1 l2 ((d, p) :: r) x f na nb nc) (b1 : 2 ≤ nb) (b2 : nb ≤ 300) (b3 : 1 ≤ na) (b4 : na ≤ 300) (b5 : nc + 1 = na + nb) :
    Calls Try.prog 6 #[.string ⟨l.toArray⟩, .string ⟨t.toArray⟩] w fun e w' => e = .returned (.bool true) ∧ Below w.heap.size w w' := by
  have k1 : decide ((100 : Int) < (l.length : Int)) = false := by simp; omega
  have k2 : decide ((100 : Int) < (t.length : Int)) = false := by simp; omega
  have k3 : ((na : Int) == 0) = false := by simp; omega
  have k4 : decide ((nb : Int) < 2) = false := by simp; omega
  have k5 : ((nc : Int) != (na : Int) + (nb : Int) - 1) = false := by simp; omega
  have k6 : (0 : Int) ≤ (na : Int) - 1 := by omega
  have k7 : ((na : Int) - 1).toNat = r.length := by have := h3.hna; simp at this; omega
  have H3 := Lib.hid h3
  have HS := Lib.hid (And.intro hmd h4)
  have HI := Lib.hid hq
  have HB5 := Lib.hid b5
  clear h3 hq hmd h4 b5
  go_enter Try.func6, Try.ntmps6
  go_wp2_with (first
    | (go_at_call 10
       refine (awake_c _).mono ?_
       rintro e w1 ⟨rfl, hb1⟩)
    | (go_at_call 19
       refine (in_41 _ _ (by omega)).mono ?_
       rintro e w2 ⟨rfl, rfl⟩
       rw [HI.out])
    | (go_at_call 11
       rw [H3.out.s2]
       with_reducible refine (run_m l2 _ (by have := H3.out.n2; omega)).mono ?_
       rintro e w4 ⟨g4, c4, rfl, hfr, hb4⟩
       rw [H3.out.enc, H3.out.ecf]
       unfold Fr at hfr
       rw [H3.out.enc, H3.out.ec] at hfr
       have G4 := Lib.hid (And.intro hfr hb4)
       clear hfr hb4)
    | (go_at_call 11
       rw [H3.out.s1]
       with_reducible refine (run_m l1 _ (by have := H3.out.n1; omega)).mono ?_
       rintro e w3 ⟨g3, c3, rfl, hfr, hb3⟩
       rw [H3.out.enb, H3.out.ebf]
       unfold Fr at hfr
       rw [H3.out.enb, H3.out.eb] at hfr
       have G3 := Lib.hid (And.intro hfr hb3)
       clear hfr hb3 y0)
    | (go_at_call 11
       with_reducible refine (run_m l _ (by omega)).mono ?_
       rintro e w2 ⟨g, c, rfl, hfr, hb2⟩
       rw [H3.out.ena]
       rw [H3.out.ena] at hfr
       obtain ⟨y0, _⟩ := fr_top (k := r.length) hfr H3.out.ea (by have := H3.out.hna; simpa using this.symm) rfl
       rw [HS.out.1, HS.out.2] at y0
       unfold Fr at hfr
       rw [H3.out.ena, H3.out.ea] at hfr
       have G2 := Lib.hid (And.intro hfr (hb1.trans (hb2.mono hb1.size)))
       clear hfr hb2 hb1))
  go_loopw [11] (fun i wr => ∃ j : Nat, j ≤ na ∧ i = .int .i64 j ∧ Below w4.heap.size w4 wr) (fun i _ => na - (intOf i).toNat)
  case atStart => exact ⟨0, by omega, rfl, Below.refl _ _⟩
  case round =>
    obtain ⟨j, hj, rfl, hb⟩ := hrel
    have b2' := (G3.out.2.trans (G4.out.2.mono G3.out.2.size)).trans (hb.mono (Nat.le_trans G3.out.2.size G4.out.2.size))
    have b3' := G4.out.2.trans (hb.mono G4.out.2.size)
    have HB := Lib.hid (And.intro hb (And.intro b2' b3'))
    clear hb b2' b3'
    by_cases hlt : j < na
    · have m3 : (0 : Int) ≤ (j : Int) := by omega
      have m4 : (j : Int) < (na : Int) := by omega
      have m5 : (j : Int) < (nc : Int) := by have := HB5.out; omega
      have fa := G2.out.1
      have fc := G4.out.1
      have hjl : j < ((d, p) :: r).reverse.length := by have := H3.out.hna; simp at this ⊢; omega
      obtain ⟨⟨c0, p0⟩, hcp⟩ : ∃ x, ((d, p) :: r).reverse[j]? = some x := ⟨_, List.getElem?_eq_getElem hjl⟩
      obtain ⟨e1, e2⟩ := fcells_at ((d, p) :: r) j c0 p0 hcp
      obtain ⟨e3, e4⟩ := fcells_at (sh (l.length : Int) x ++ (d, p) :: r) j c0 p0 (by rw [List.reverse_append, List.getElem?_append_left hjl]; exact hcp)
      have fa' := own_below fa HB.out.2.1
      have fc' := own_below fc HB.out.1
      have d1 := own_cell fa' _ _ e1
      have d2 := own_cell fa' _ _ e2
      have d5 := own_cell fc' _ _ e3
      have d6 := own_cell fc' _ _ e4
      clear fa fc fa' fc' e1 e2 e3 e4 hcp hjl
      generalize modeOf c0 = mo at d1 d5
      go_wp2_with fail
      go_quiet (fail)
      go_wp2
      exact ⟨⟨j + 1, by omega, by go_num, below_drewN' HB.out.1 _⟩, by simp [intOf]; omega⟩
    · go_wp2
      go_loopw [12] (fun i wr => ∃ j : Nat, 1 ≤ j ∧ j ≤ nb ∧ i = .int .i64 j ∧ Below w4.heap.size w4 wr) (fun i _ => nb - (intOf i).toNat)
      case atStart => exact ⟨1, by omega, by omega, rfl, HB.out.1⟩
      case round =>
        obtain ⟨i, hi1, hi, rfl, hb⟩ := hrel
        have b2' := (G3.out.2.trans (G4.out.2.mono G3.out.2.size)).trans (hb.mono (Nat.le_trans G3.out.2.size G4.out.2.size))
        have b3' := G4.out.2.trans (hb.mono G4.out.2.size)
        have HB2 := Lib.hid (And.intro hb (And.intro b2' b3'))
        clear hb b2' b3'
        by_cases hlt2 : i < nb
        · obtain ⟨j, rfl⟩ : ∃ j, i = j + 1 := ⟨i - 1, by omega⟩
          have fb' := own_below G3.out.1 HB2.out.2.2
          have fc' := own_below G4.out.1 HB2.out.1
          have hjl : j < x.reverse.length := by have := H3.out.hnb; simp; omega
          obtain ⟨⟨c0, p0⟩, hcp⟩ : ∃ y, x.reverse[j]? = some y := ⟨_, List.getElem?_eq_getElem hjl⟩
          obtain ⟨e1, e2⟩ := fcells_at (x ++ [(84, 0)]) (j + 1) c0 p0 (by rw [List.reverse_append]; exact hcp)
          obtain ⟨e3, e4⟩ := fcells_at (sh (l.length : Int) x ++ (d, p) :: r) (na + j) c0 (p0 + (l.length : Int)) (by
            have hna := H3.out.hna
            rw [List.reverse_append, List.getElem?_append_right (by rw [List.length_reverse]; omega), List.length_reverse, hna, show na + j - na = j by omega]
            unfold sh
            rw [← List.map_reverse, List.getElem?_map, hcp]
            rfl)
          have d1 := own_cell fb' _ _ e1
          have d2 := own_cell fb' _ _ e2
          have d5 := own_cell fc' _ _ e3
          have d6 := own_cell fc' _ _ e4
          have hpb := rAt_pl l1 l1.length (c0, p0) (by rw [H3.out.eb]; exact List.mem_append_left _ (List.mem_reverse.1 (List.mem_of_getElem? hcp)))
          obtain ⟨hp0, hp1⟩ := hpb
          have hp2 : l1.length ≤ 300 := H3.out.n1
          have m6 := HB5.out
          have m7 : (j : Int) + 1 < (nb : Int) := by omega
          have m8 : IntKind.i64.wrap ((na : Int) + ((j : Int) + 1)) = (na : Int) + ((j : Int) + 1) := IntWalk.i64_in _ (by omega)
          have m9 : IntKind.i64.wrap ((na : Int) + ((j : Int) + 1) - 1) = (na : Int) + ((j : Int) + 1) - 1 := IntWalk.i64_in _ (by omega)
          have m10 : 0 ≤ (na : Int) + ((j : Int) + 1) - 1 := by omega
          have m11 : (na : Int) + ((j : Int) + 1) - 1 < (nc : Int) := by omega
          have m12 : ((na : Int) + ((j : Int) + 1) - 1).toNat = na + j := by omega
          have m13 : IntKind.i64.wrap (p0 + (l.length : Int)) = p0 + (l.length : Int) := IntWalk.i64_in _ (by omega)
          clear fb' fc' e1 e2 e3 e4 hcp hjl hp0 hp1 hp2 m6
          generalize modeOf c0 = mo at d1 d5
          go_wp2_with fail
          go_quiet (fail)
          clear m8 m9 m12 m13
          go_wp2
          exact ⟨⟨j + 1 + 1, by omega, by omega, by go_num, below_drewN' HB2.out.1 _⟩, by simp [intOf]; omega⟩
        · go_wp2
          go_ret
          refine ⟨rfl, ?_⟩
          have q2 := G2.out.2
          have q3 := q2.trans (G3.out.2.mono q2.size)
          have q4 := q3.trans (G4.out.2.mono q3.size)
          exact q4.trans (HB2.out.1.mono q4.size)
set_option maxHeartbeats 2000000 in
theorem inner_1 (l t l1 l2 : List UInt8) (w : World) (d : UInt8) (p : Int) (r x : Stk) (f : Bool) (na nb nc : Nat) (md : Int) (hl0 : l.length ≤ 100) (ht0 : t.length ≤ 100) (hmd : modeOf d = md) (h4 : md = 1)
    (hq : inL 41 t = false) (h3 : In3 l t l1 l2 ((d, p) :: r) x f na nb nc) (b1 : 2 ≤ nb) (b2 : nb ≤ 300) (b3 : 1 ≤ na) (b4 : na ≤ 300) (b5 : nc + 1 = na + nb) :
    Calls Try.prog 6 #[.string ⟨l.toArray⟩, .string ⟨t.toArray⟩] w fun e w' => e = .returned (.bool true) ∧ Below w.heap.size w w' := by
  have k1 : decide ((100 : Int) < (l.length : Int)) = false := by simp; omega
  have k2 : decide ((100 : Int) < (t.length : Int)) = false := by simp; omega
  have k3 : ((na : Int) == 0) = false := by simp; omega
  have k4 : decide ((nb : Int) < 2) = false := by simp; omega
  have k5 : ((nc : Int) != (na : Int) + (nb : Int) - 1) = false := by simp; omega
  have k6 : (0 : Int) ≤ (na : Int) - 1 := by omega
  have k7 : ((na : Int) - 1).toNat = r.length := by have := h3.hna; simp at this; omega
  have H3 := Lib.hid h3
  have HS := Lib.hid (And.intro hmd h4)
  have HI := Lib.hid hq
  have HB5 := Lib.hid b5
  clear h3 hq hmd h4 b5
  go_enter Try.func6, Try.ntmps6
  go_wp2_with (first
    | (go_at_call 10
       refine (awake_c _).mono ?_
       rintro e w1 ⟨rfl, hb1⟩)
    | (go_at_call 19
       refine (in_41 _ _ (by omega)).mono ?_
       rintro e w2 ⟨rfl, rfl⟩
       rw [HI.out])
    | (go_at_call 11
       rw [H3.out.s2]
       with_reducible refine (run_m l2 _ (by have := H3.out.n2; omega)).mono ?_
       rintro e w4 ⟨g4, c4, rfl, hfr, hb4⟩
       rw [H3.out.enc, H3.out.ecf]
       unfold Fr at hfr
       rw [H3.out.enc, H3.out.ec] at hfr
       have G4 := Lib.hid (And.intro hfr hb4)
       clear hfr hb4)
    | (go_at_call 11
       rw [H3.out.s1]
       with_reducible refine (run_m l1 _ (by have := H3.out.n1; omega)).mono ?_
       rintro e w3 ⟨g3, c3, rfl, hfr, hb3⟩
       rw [H3.out.enb, H3.out.ebf]
       unfold Fr at hfr
       rw [H3.out.enb, H3.out.eb] at hfr
       have G3 := Lib.hid (And.intro hfr hb3)
       clear hfr hb3 y0)
    | (go_at_call 11
       with_reducible refine (run_m l _ (by omega)).mono ?_
       rintro e w2 ⟨g, c, rfl, hfr, hb2⟩
       rw [H3.out.ena]
       rw [H3.out.ena] at hfr
       obtain ⟨y0, _⟩ := fr_top (k := r.length) hfr H3.out.ea (by have := H3.out.hna; simpa using this.symm) rfl
       rw [HS.out.1, HS.out.2] at y0
       unfold Fr at hfr
       rw [H3.out.ena, H3.out.ea] at hfr
       have G2 := Lib.hid (And.intro hfr (hb1.trans (hb2.mono hb1.size)))
       clear hfr hb2 hb1))
  go_loopw [11] (fun i wr => ∃ j : Nat, j ≤ na ∧ i = .int .i64 j ∧ Below w4.heap.size w4 wr) (fun i _ => na - (intOf i).toNat)
  case atStart => exact ⟨0, by omega, rfl, Below.refl _ _⟩
  case round =>
    obtain ⟨j, hj, rfl, hb⟩ := hrel
    have b2' := (G3.out.2.trans (G4.out.2.mono G3.out.2.size)).trans (hb.mono (Nat.le_trans G3.out.2.size G4.out.2.size))
    have b3' := G4.out.2.trans (hb.mono G4.out.2.size)
    have HB := Lib.hid (And.intro hb (And.intro b2' b3'))
    clear hb b2' b3'
    by_cases hlt : j < na
    · have m3 : (0 : Int) ≤ (j : Int) := by omega
      have m4 : (j : Int) < (na : Int) := by omega
      have m5 : (j : Int) < (nc : Int) := by have := HB5.out; omega
      have fa := G2.out.1
      have fc := G4.out.1
      have hjl : j < ((d, p) :: r).reverse.length := by have := H3.out.hna; simp at this ⊢; omega
      obtain ⟨⟨c0, p0⟩, hcp⟩ : ∃ x, ((d, p) :: r).reverse[j]? = some x := ⟨_, List.getElem?_eq_getElem hjl⟩
      obtain ⟨e1, e2⟩ := fcells_at ((d, p) :: r) j c0 p0 hcp
      obtain ⟨e3, e4⟩ := fcells_at (sh (l.length : Int) x ++ (d, p) :: r) j c0 p0 (by rw [List.reverse_append, List.getElem?_append_left hjl]; exact hcp)
      have fa' := own_below fa HB.out.2.1
      have fc' := own_below fc HB.out.1
      have d1 := own_cell fa' _ _ e1
      have d2 := own_cell fa' _ _ e2
      have d5 := own_cell fc' _ _ e3
      have d6 := own_cell fc' _ _ e4
      clear fa fc fa' fc' e1 e2 e3 e4 hcp hjl
      generalize modeOf c0 = mo at d1 d5
      go_wp2_with fail
      go_quiet (fail)
      go_wp2
      exact ⟨⟨j + 1, by omega, by go_num, below_drewN' HB.out.1 _⟩, by simp [intOf]; omega⟩
    · go_wp2
      go_loopw [12] (fun i wr => ∃ j : Nat, 1 ≤ j ∧ j ≤ nb ∧ i = .int .i64 j ∧ Below w4.heap.size w4 wr) (fun i _ => nb - (intOf i).toNat)
      case atStart => exact ⟨1, by omega, by omega, rfl, HB.out.1⟩
      case round =>
        obtain ⟨i, hi1, hi, rfl, hb⟩ := hrel
        have b2' := (G3.out.2.trans (G4.out.2.mono G3.out.2.size)).trans (hb.mono (Nat.le_trans G3.out.2.size G4.out.2.size))
        have b3' := G4.out.2.trans (hb.mono G4.out.2.size)
        have HB2 := Lib.hid (And.intro hb (And.intro b2' b3'))
        clear hb b2' b3'
        by_cases hlt2 : i < nb
        · obtain ⟨j, rfl⟩ : ∃ j, i = j + 1 := ⟨i - 1, by omega⟩
          have fb' := own_below G3.out.1 HB2.out.2.2
          have fc' := own_below G4.out.1 HB2.out.1
          have hjl : j < x.reverse.length := by have := H3.out.hnb; simp; omega
          obtain ⟨⟨c0, p0⟩, hcp⟩ : ∃ y, x.reverse[j]? = some y := ⟨_, List.getElem?_eq_getElem hjl⟩
          obtain ⟨e1, e2⟩ := fcells_at (x ++ [(84, 0)]) (j + 1) c0 p0 (by rw [List.reverse_append]; exact hcp)
          obtain ⟨e3, e4⟩ := fcells_at (sh (l.length : Int) x ++ (d, p) :: r) (na + j) c0 (p0 + (l.length : Int)) (by
            have hna := H3.out.hna
            rw [List.reverse_append, List.getElem?_append_right (by rw [List.length_reverse]; omega), List.length_reverse, hna, show na + j - na = j by omega]
            unfold sh
            rw [← List.map_reverse, List.getElem?_map, hcp]
            rfl)
          have d1 := own_cell fb' _ _ e1
          have d2 := own_cell fb' _ _ e2
          have d5 := own_cell fc' _ _ e3
          have d6 := own_cell fc' _ _ e4
          have hpb := rAt_pl l1 l1.length (c0, p0) (by rw [H3.out.eb]; exact List.mem_append_left _ (List.mem_reverse.1 (List.mem_of_getElem? hcp)))
          obtain ⟨hp0, hp1⟩ := hpb
          have hp2 : l1.length ≤ 300 := H3.out.n1
          have m6 := HB5.out
          have m7 : (j : Int) + 1 < (nb : Int) := by omega
          have m8 : IntKind.i64.wrap ((na : Int) + ((j : Int) + 1)) = (na : Int) + ((j : Int) + 1) := IntWalk.i64_in _ (by omega)
          have m9 : IntKind.i64.wrap ((na : Int) + ((j : Int) + 1) - 1) = (na : Int) + ((j : Int) + 1) - 1 := IntWalk.i64_in _ (by omega)
          have m10 : 0 ≤ (na : Int) + ((j : Int) + 1) - 1 := by omega
          have m11 : (na : Int) + ((j : Int) + 1) - 1 < (nc : Int) := by omega
          have m12 : ((na : Int) + ((j : Int) + 1) - 1).toNat = na + j := by omega
          have m13 : IntKind.i64.wrap (p0 + (l.length : Int)) = p0 + (l.length : Int) := IntWalk.i64_in _ (by omega)
          clear fb' fc' e1 e2 e3 e4 hcp hjl hp0 hp1 hp2 m6
          generalize modeOf c0 = mo at d1 d5
          go_wp2_with fail
          go_quiet (fail)
          clear m8 m9 m12 m13
          go_wp2
          exact ⟨⟨j + 1 + 1, by omega, by omega, by go_num, below_drewN' HB2.out.1 _⟩, by simp [intOf]; omega⟩
        · go_wp2
          go_ret
          refine ⟨rfl, ?_⟩
          have q2 := G2.out.2
          have q3 := q2.trans (G3.out.2.mono q2.size)
          have q4 := q3.trans (G4.out.2.mono q3.size)
          exact q4.trans (HB2.out.1.mono q4.size)
set_option maxHeartbeats 2000000 in
theorem inner_2 (l t l1 l2 : List UInt8) (w : World) (d : UInt8) (p : Int) (r x : Stk) (f : Bool) (na nb nc : Nat) (md : Int) (hl0 : l.length ≤ 100) (ht0 : t.length ≤ 100) (hmd : modeOf d = md) (h4 : md = 2)
    (hq : inL 41 t = false) (h3 : In3 l t l1 l2 ((d, p) :: r) x f na nb nc) (b1 : 2 ≤ nb) (b2 : nb ≤ 300) (b3 : 1 ≤ na) (b4 : na ≤ 300) (b5 : nc + 1 = na + nb) :
    Calls Try.prog 6 #[.string ⟨l.toArray⟩, .string ⟨t.toArray⟩] w fun e w' => e = .returned (.bool true) ∧ Below w.heap.size w w' := by
  have k1 : decide ((100 : Int) < (l.length : Int)) = false := by simp; omega
  have k2 : decide ((100 : Int) < (t.length : Int)) = false := by simp; omega
  have k3 : ((na : Int) == 0) = false := by simp; omega
  have k4 : decide ((nb : Int) < 2) = false := by simp; omega
  have k5 : ((nc : Int) != (na : Int) + (nb : Int) - 1) = false := by simp; omega
  have k6 : (0 : Int) ≤ (na : Int) - 1 := by omega
  have k7 : ((na : Int) - 1).toNat = r.length := by have := h3.hna; simp at this; omega
  have H3 := Lib.hid h3
  have HS := Lib.hid (And.intro hmd h4)
  have HI := Lib.hid hq
  have HB5 := Lib.hid b5
  clear h3 hq hmd h4 b5
  go_enter Try.func6, Try.ntmps6
  go_wp2_with (first
    | (go_at_call 10
       refine (awake_c _).mono ?_
       rintro e w1 ⟨rfl, hb1⟩)
    | (go_at_call 19
       refine (in_41 _ _ (by omega)).mono ?_
       rintro e w2 ⟨rfl, rfl⟩
       rw [HI.out])
    | (go_at_call 11
       rw [H3.out.s2]
       with_reducible refine (run_m l2 _ (by have := H3.out.n2; omega)).mono ?_
       rintro e w4 ⟨g4, c4, rfl, hfr, hb4⟩
       rw [H3.out.enc, H3.out.ecf]
       unfold Fr at hfr
       rw [H3.out.enc, H3.out.ec] at hfr
       have G4 := Lib.hid (And.intro hfr hb4)
       clear hfr hb4)
    | (go_at_call 11
       rw [H3.out.s1]
       with_reducible refine (run_m l1 _ (by have := H3.out.n1; omega)).mono ?_
       rintro e w3 ⟨g3, c3, rfl, hfr, hb3⟩
       rw [H3.out.enb, H3.out.ebf]
       unfold Fr at hfr
       rw [H3.out.enb, H3.out.eb] at hfr
       have G3 := Lib.hid (And.intro hfr hb3)
       clear hfr hb3 y0)
    | (go_at_call 11
       with_reducible refine (run_m l _ (by omega)).mono ?_
       rintro e w2 ⟨g, c, rfl, hfr, hb2⟩
       rw [H3.out.ena]
       rw [H3.out.ena] at hfr
       obtain ⟨y0, _⟩ := fr_top (k := r.length) hfr H3.out.ea (by have := H3.out.hna; simpa using this.symm) rfl
       rw [HS.out.1, HS.out.2] at y0
       unfold Fr at hfr
       rw [H3.out.ena, H3.out.ea] at hfr
       have G2 := Lib.hid (And.intro hfr (hb1.trans (hb2.mono hb1.size)))
       clear hfr hb2 hb1))
  go_loopw [11] (fun i wr => ∃ j : Nat, j ≤ na ∧ i = .int .i64 j ∧ Below w4.heap.size w4 wr) (fun i _ => na - (intOf i).toNat)
  case atStart => exact ⟨0, by omega, rfl, Below.refl _ _⟩
  case round =>
    obtain ⟨j, hj, rfl, hb⟩ := hrel
    have b2' := (G3.out.2.trans (G4.out.2.mono G3.out.2.size)).trans (hb.mono (Nat.le_trans G3.out.2.size G4.out.2.size))
    have b3' := G4.out.2.trans (hb.mono G4.out.2.size)
    have HB := Lib.hid (And.intro hb (And.intro b2' b3'))
    clear hb b2' b3'
    by_cases hlt : j < na
    · have m3 : (0 : Int) ≤ (j : Int) := by omega
      have m4 : (j : Int) < (na : Int) := by omega
      have m5 : (j : Int) < (nc : Int) := by have := HB5.out; omega
      have fa := G2.out.1
      have fc := G4.out.1
      have hjl : j < ((d, p) :: r).reverse.length := by have := H3.out.hna; simp at this ⊢; omega
      obtain ⟨⟨c0, p0⟩, hcp⟩ : ∃ x, ((d, p) :: r).reverse[j]? = some x := ⟨_, List.getElem?_eq_getElem hjl⟩
      obtain ⟨e1, e2⟩ := fcells_at ((d, p) :: r) j c0 p0 hcp
      obtain ⟨e3, e4⟩ := fcells_at (sh (l.length : Int) x ++ (d, p) :: r) j c0 p0 (by rw [List.reverse_append, List.getElem?_append_left hjl]; exact hcp)
      have fa' := own_below fa HB.out.2.1
      have fc' := own_below fc HB.out.1
      have d1 := own_cell fa' _ _ e1
      have d2 := own_cell fa' _ _ e2
      have d5 := own_cell fc' _ _ e3
      have d6 := own_cell fc' _ _ e4
      clear fa fc fa' fc' e1 e2 e3 e4 hcp hjl
      generalize modeOf c0 = mo at d1 d5
      go_wp2_with fail
      go_quiet (fail)
      go_wp2
      exact ⟨⟨j + 1, by omega, by go_num, below_drewN' HB.out.1 _⟩, by simp [intOf]; omega⟩
    · go_wp2
      go_loopw [12] (fun i wr => ∃ j : Nat, 1 ≤ j ∧ j ≤ nb ∧ i = .int .i64 j ∧ Below w4.heap.size w4 wr) (fun i _ => nb - (intOf i).toNat)
      case atStart => exact ⟨1, by omega, by omega, rfl, HB.out.1⟩
      case round =>
        obtain ⟨i, hi1, hi, rfl, hb⟩ := hrel
        have b2' := (G3.out.2.trans (G4.out.2.mono G3.out.2.size)).trans (hb.mono (Nat.le_trans G3.out.2.size G4.out.2.size))
        have b3' := G4.out.2.trans (hb.mono G4.out.2.size)
        have HB2 := Lib.hid (And.intro hb (And.intro b2' b3'))
        clear hb b2' b3'
        by_cases hlt2 : i < nb
        · obtain ⟨j, rfl⟩ : ∃ j, i = j + 1 := ⟨i - 1, by omega⟩
          have fb' := own_below G3.out.1 HB2.out.2.2
          have fc' := own_below G4.out.1 HB2.out.1
          have hjl : j < x.reverse.length := by have := H3.out.hnb; simp; omega
          obtain ⟨⟨c0, p0⟩, hcp⟩ : ∃ y, x.reverse[j]? = some y := ⟨_, List.getElem?_eq_getElem hjl⟩
          obtain ⟨e1, e2⟩ := fcells_at (x ++ [(84, 0)]) (j + 1) c0 p0 (by rw [List.reverse_append]; exact hcp)
          obtain ⟨e3, e4⟩ := fcells_at (sh (l.length : Int) x ++ (d, p) :: r) (na + j) c0 (p0 + (l.length : Int)) (by
            have hna := H3.out.hna
            rw [List.reverse_append, List.getElem?_append_right (by rw [List.length_reverse]; omega), List.length_reverse, hna, show na + j - na = j by omega]
            unfold sh
            rw [← List.map_reverse, List.getElem?_map, hcp]
            rfl)
          have d1 := own_cell fb' _ _ e1
          have d2 := own_cell fb' _ _ e2
          have d5 := own_cell fc' _ _ e3
          have d6 := own_cell fc' _ _ e4
          have hpb := rAt_pl l1 l1.length (c0, p0) (by rw [H3.out.eb]; exact List.mem_append_left _ (List.mem_reverse.1 (List.mem_of_getElem? hcp)))
          obtain ⟨hp0, hp1⟩ := hpb
          have hp2 : l1.length ≤ 300 := H3.out.n1
          have m6 := HB5.out
          have m7 : (j : Int) + 1 < (nb : Int) := by omega
          have m8 : IntKind.i64.wrap ((na : Int) + ((j : Int) + 1)) = (na : Int) + ((j : Int) + 1) := IntWalk.i64_in _ (by omega)
          have m9 : IntKind.i64.wrap ((na : Int) + ((j : Int) + 1) - 1) = (na : Int) + ((j : Int) + 1) - 1 := IntWalk.i64_in _ (by omega)
          have m10 : 0 ≤ (na : Int) + ((j : Int) + 1) - 1 := by omega
          have m11 : (na : Int) + ((j : Int) + 1) - 1 < (nc : Int) := by omega
          have m12 : ((na : Int) + ((j : Int) + 1) - 1).toNat = na + j := by omega
          have m13 : IntKind.i64.wrap (p0 + (l.length : Int)) = p0 + (l.length : Int) := IntWalk.i64_in _ (by omega)
          clear fb' fc' e1 e2 e3 e4 hcp hjl hp0 hp1 hp2 m6
          generalize modeOf c0 = mo at d1 d5
          go_wp2_with fail
          go_quiet (fail)
          clear m8 m9 m12 m13
          go_wp2
          exact ⟨⟨j + 1 + 1, by omega, by omega, by go_num, below_drewN' HB2.out.1 _⟩, by simp [intOf]; omega⟩
        · go_wp2
          go_ret
          refine ⟨rfl, ?_⟩
          have q2 := G2.out.2
          have q3 := q2.trans (G3.out.2.mono q2.size)
          have q4 := q3.trans (G4.out.2.mono q3.size)
          exact q4.trans (HB2.out.1.mono q4.size)
set_option maxHeartbeats 2000000 in
theorem inner_5 (l t l1 l2 : List UInt8) (w : World) (d : UInt8) (p : Int) (r x : Stk) (f : Bool) (na nb nc : Nat) (md : Int) (hl0 : l.length ≤ 100) (ht0 : t.length ≤ 100) (hmd : modeOf d = md) (h4 : md = 5)
    (hq : inL 41 t = false) (h3 : In3 l t l1 l2 ((d, p) :: r) x f na nb nc) (b1 : 2 ≤ nb) (b2 : nb ≤ 300) (b3 : 1 ≤ na) (b4 : na ≤ 300) (b5 : nc + 1 = na + nb) :
    Calls Try.prog 6 #[.string ⟨l.toArray⟩, .string ⟨t.toArray⟩] w fun e w' => e = .returned (.bool true) ∧ Below w.heap.size w w' := by
  have k1 : decide ((100 : Int) < (l.length : Int)) = false := by simp; omega
  have k2 : decide ((100 : Int) < (t.length : Int)) = false := by simp; omega
  have k3 : ((na : Int) == 0) = false := by simp; omega
  have k4 : decide ((nb : Int) < 2) = false := by simp; omega
  have k5 : ((nc : Int) != (na : Int) + (nb : Int) - 1) = false := by simp; omega
  have k6 : (0 : Int) ≤ (na : Int) - 1 := by omega
  have k7 : ((na : Int) - 1).toNat = r.length := by have := h3.hna; simp at this; omega
  have H3 := Lib.hid h3
  have HS := Lib.hid (And.intro hmd h4)
  have HI := Lib.hid hq
  have HB5 := Lib.hid b5
  clear h3 hq hmd h4 b5
  go_enter Try.func6, Try.ntmps6
  go_wp2_with (first
    | (go_at_call 10
       refine (awake_c _).mono ?_
       rintro e w1 ⟨rfl, hb1⟩)
    | (go_at_call 19
       refine (in_41 _ _ (by omega)).mono ?_
       rintro e w2 ⟨rfl, rfl⟩
       rw [HI.out])
    | (go_at_call 11
       rw [H3.out.s2]
       with_reducible refine (run_m l2 _ (by have := H3.out.n2; omega)).mono ?_
       rintro e w4 ⟨g4, c4, rfl, hfr, hb4⟩
       rw [H3.out.enc, H3.out.ecf]
       unfold Fr at hfr
       rw [H3.out.enc, H3.out.ec] at hfr
       have G4 := Lib.hid (And.intro hfr hb4)
       clear hfr hb4)
    | (go_at_call 11
       rw [H3.out.s1]
       with_reducible refine (run_m l1 _ (by have := H3.out.n1; omega)).mono ?_
       rintro e w3 ⟨g3, c3, rfl, hfr, hb3⟩
       rw [H3.out.enb, H3.out.ebf]
       unfold Fr at hfr
       rw [H3.out.enb, H3.out.eb] at hfr
       have G3 := Lib.hid (And.intro hfr hb3)
       clear hfr hb3 y0)
    | (go_at_call 11
       with_reducible refine (run_m l _ (by omega)).mono ?_
       rintro e w2 ⟨g, c, rfl, hfr, hb2⟩
       rw [H3.out.ena]
       rw [H3.out.ena] at hfr
       obtain ⟨y0, _⟩ := fr_top (k := r.length) hfr H3.out.ea (by have := H3.out.hna; simpa using this.symm) rfl
       rw [HS.out.1, HS.out.2] at y0
       unfold Fr at hfr
       rw [H3.out.ena, H3.out.ea] at hfr
       have G2 := Lib.hid (And.intro hfr (hb1.trans (hb2.mono hb1.size)))
       clear hfr hb2 hb1))
  go_loopw [11] (fun i wr => ∃ j : Nat, j ≤ na ∧ i = .int .i64 j ∧ Below w4.heap.size w4 wr) (fun i _ => na - (intOf i).toNat)
  case atStart => exact ⟨0, by omega, rfl, Below.refl _ _⟩
  case round =>
    obtain ⟨j, hj, rfl, hb⟩ := hrel
    have b2' := (G3.out.2.trans (G4.out.2.mono G3.out.2.size)).trans (hb.mono (Nat.le_trans G3.out.2.size G4.out.2.size))
    have b3' := G4.out.2.trans (hb.mono G4.out.2.size)
    have HB := Lib.hid (And.intro hb (And.intro b2' b3'))
    clear hb b2' b3'
    by_cases hlt : j < na
    · have m3 : (0 : Int) ≤ (j : Int) := by omega
      have m4 : (j : Int) < (na : Int) := by omega
      have m5 : (j : Int) < (nc : Int) := by have := HB5.out; omega
      have fa := G2.out.1
      have fc := G4.out.1
      have hjl : j < ((d, p) :: r).reverse.length := by have := H3.out.hna; simp at this ⊢; omega
      obtain ⟨⟨c0, p0⟩, hcp⟩ : ∃ x, ((d, p) :: r).reverse[j]? = some x := ⟨_, List.getElem?_eq_getElem hjl⟩
      obtain ⟨e1, e2⟩ := fcells_at ((d, p) :: r) j c0 p0 hcp
      obtain ⟨e3, e4⟩ := fcells_at (sh (l.length : Int) x ++ (d, p) :: r) j c0 p0 (by rw [List.reverse_append, List.getElem?_append_left hjl]; exact hcp)
      have fa' := own_below fa HB.out.2.1
      have fc' := own_below fc HB.out.1
      have d1 := own_cell fa' _ _ e1
      have d2 := own_cell fa' _ _ e2
      have d5 := own_cell fc' _ _ e3
      have d6 := own_cell fc' _ _ e4
      clear fa fc fa' fc' e1 e2 e3 e4 hcp hjl
      generalize modeOf c0 = mo at d1 d5
      go_wp2_with fail
      go_quiet (fail)
      go_wp2
      exact ⟨⟨j + 1, by omega, by go_num, below_drewN' HB.out.1 _⟩, by simp [intOf]; omega⟩
    · go_wp2
      go_loopw [12] (fun i wr => ∃ j : Nat, 1 ≤ j ∧ j ≤ nb ∧ i = .int .i64 j ∧ Below w4.heap.size w4 wr) (fun i _ => nb - (intOf i).toNat)
      case atStart => exact ⟨1, by omega, by omega, rfl, HB.out.1⟩
      case round =>
        obtain ⟨i, hi1, hi, rfl, hb⟩ := hrel
        have b2' := (G3.out.2.trans (G4.out.2.mono G3.out.2.size)).trans (hb.mono (Nat.le_trans G3.out.2.size G4.out.2.size))
        have b3' := G4.out.2.trans (hb.mono G4.out.2.size)
        have HB2 := Lib.hid (And.intro hb (And.intro b2' b3'))
        clear hb b2' b3'
        by_cases hlt2 : i < nb
        · obtain ⟨j, rfl⟩ : ∃ j, i = j + 1 := ⟨i - 1, by omega⟩
          have fb' := own_below G3.out.1 HB2.out.2.2
          have fc' := own_below G4.out.1 HB2.out.1
          have hjl : j < x.reverse.length := by have := H3.out.hnb; simp; omega
          obtain ⟨⟨c0, p0⟩, hcp⟩ : ∃ y, x.reverse[j]? = some y := ⟨_, List.getElem?_eq_getElem hjl⟩
          obtain ⟨e1, e2⟩ := fcells_at (x ++ [(84, 0)]) (j + 1) c0 p0 (by rw [List.reverse_append]; exact hcp)
          obtain ⟨e3, e4⟩ := fcells_at (sh (l.length : Int) x ++ (d, p) :: r) (na + j) c0 (p0 + (l.length : Int)) (by
            have hna := H3.out.hna
            rw [List.reverse_append, List.getElem?_append_right (by rw [List.length_reverse]; omega), List.length_reverse, hna, show na + j - na = j by omega]
            unfold sh
            rw [← List.map_reverse, List.getElem?_map, hcp]
            rfl)
          have d1 := own_cell fb' _ _ e1
          have d2 := own_cell fb' _ _ e2
          have d5 := own_cell fc' _ _ e3
          have d6 := own_cell fc' _ _ e4
          have hpb := rAt_pl l1 l1.length (c0, p0) (by rw [H3.out.eb]; exact List.mem_append_left _ (List.mem_reverse.1 (List.mem_of_getElem? hcp)))
          obtain ⟨hp0, hp1⟩ := hpb
          have hp2 : l1.length ≤ 300 := H3.out.n1
          have m6 := HB5.out
          have m7 : (j : Int) + 1 < (nb : Int) := by omega
          have m8 : IntKind.i64.wrap ((na : Int) + ((j : Int) + 1)) = (na : Int) + ((j : Int) + 1) := IntWalk.i64_in _ (by omega)
          have m9 : IntKind.i64.wrap ((na : Int) + ((j : Int) + 1) - 1) = (na : Int) + ((j : Int) + 1) - 1 := IntWalk.i64_in _ (by omega)
          have m10 : 0 ≤ (na : Int) + ((j : Int) + 1) - 1 := by omega
          have m11 : (na : Int) + ((j : Int) + 1) - 1 < (nc : Int) := by omega
          have m12 : ((na : Int) + ((j : Int) + 1) - 1).toNat = na + j := by omega
          have m13 : IntKind.i64.wrap (p0 + (l.length : Int)) = p0 + (l.length : Int) := IntWalk.i64_in _ (by omega)
          clear fb' fc' e1 e2 e3 e4 hcp hjl hp0 hp1 hp2 m6
          generalize modeOf c0 = mo at d1 d5
          go_wp2_with fail
          go_quiet (fail)
          clear m8 m9 m12 m13
          go_wp2
          exact ⟨⟨j + 1 + 1, by omega, by omega, by go_num, below_drewN' HB2.out.1 _⟩, by simp [intOf]; omega⟩
        · go_wp2
          go_ret
          refine ⟨rfl, ?_⟩
          have q2 := G2.out.2
          have q3 := q2.trans (G3.out.2.mono q2.size)
          have q4 := q3.trans (G4.out.2.mono q3.size)
          exact q4.trans (HB2.out.1.mono q4.size)
set_option maxHeartbeats 2000000 in
theorem inner_7 (l t l1 l2 : List UInt8) (w : World) (d : UInt8) (p : Int) (r x : Stk) (f : Bool) (na nb nc : Nat) (md : Int) (hl0 : l.length ≤ 100) (ht0 : t.length ≤ 100) (hmd : modeOf d = md) (h4 : md = 7)
    (hq : inL 41 t = false) (h3 : In3 l t l1 l2 ((d, p) :: r) x f na nb nc) (b1 : 2 ≤ nb) (b2 : nb ≤ 300) (b3 : 1 ≤ na) (b4 : na ≤ 300) (b5 : nc + 1 = na + nb) :
    Calls Try.prog 6 #[.string ⟨l.toArray⟩, .string ⟨t.toArray⟩] w fun e w' => e = .returned (.bool true) ∧ Below w.heap.size w w' := by
  have k1 : decide ((100 : Int) < (l.length : Int)) = false := by simp; omega
  have k2 : decide ((100 : Int) < (t.length : Int)) = false := by simp; omega
  have k3 : ((na : Int) == 0) = false := by simp; omega
  have k4 : decide ((nb : Int) < 2) = false := by simp; omega
  have k5 : ((nc : Int) != (na : Int) + (nb : Int) - 1) = false := by simp; omega
  have k6 : (0 : Int) ≤ (na : Int) - 1 := by omega
  have k7 : ((na : Int) - 1).toNat = r.length := by have := h3.hna; simp at this; omega
  have H3 := Lib.hid h3
  have HS := Lib.hid (And.intro hmd h4)
  have HI := Lib.hid hq
  have HB5 := Lib.hid b5
  clear h3 hq hmd h4 b5
  go_enter Try.func6, Try.ntmps6
  go_wp2_with (first
    | (go_at_call 10
       refine (awake_c _).mono ?_
       rintro e w1 ⟨rfl, hb1⟩)
    | (go_at_call 19
       refine (in_41 _ _ (by omega)).mono ?_
       rintro e w2 ⟨rfl, rfl⟩
       rw [HI.out])
    | (go_at_call 11
       rw [H3.out.s2]
       with_reducible refine (run_m l2 _ (by have := H3.out.n2; omega)).mono ?_
       rintro e w4 ⟨g4, c4, rfl, hfr, hb4⟩
       rw [H3.out.enc, H3.out.ecf]
       unfold Fr at hfr
       rw [H3.out.enc, H3.out.ec] at hfr
       have G4 := Lib.hid (And.intro hfr hb4)
       clear hfr hb4)
    | (go_at_call 11
       rw [H3.out.s1]
       with_reducible refine (run_m l1 _ (by have := H3.out.n1; omega)).mono ?_
       rintro e w3 ⟨g3, c3, rfl, hfr, hb3⟩
       rw [H3.out.enb, H3.out.ebf]
       unfold Fr at hfr
       rw [H3.out.enb, H3.out.eb] at hfr
       have G3 := Lib.hid (And.intro hfr hb3)
       clear hfr hb3 y0)
    | (go_at_call 11
       with_reducible refine (run_m l _ (by omega)).mono ?_
       rintro e w2 ⟨g, c, rfl, hfr, hb2⟩
       rw [H3.out.ena]
       rw [H3.out.ena] at hfr
       obtain ⟨y0, _⟩ := fr_top (k := r.length) hfr H3.out.ea (by have := H3.out.hna; simpa using this.symm) rfl
       rw [HS.out.1, HS.out.2] at y0
       unfold Fr at hfr
       rw [H3.out.ena, H3.out.ea] at hfr
       have G2 := Lib.hid (And.intro hfr (hb1.trans (hb2.mono hb1.size)))
       clear hfr hb2 hb1))
  go_loopw [11] (fun i wr => ∃ j : Nat, j ≤ na ∧ i = .int .i64 j ∧ Below w4.heap.size w4 wr) (fun i _ => na - (intOf i).toNat)
  case atStart => exact ⟨0, by omega, rfl, Below.refl _ _⟩
  case round =>
    obtain ⟨j, hj, rfl, hb⟩ := hrel
    have b2' := (G3.out.2.trans (G4.out.2.mono G3.out.2.size)).trans (hb.mono (Nat.le_trans G3.out.2.size G4.out.2.size))
    have b3' := G4.out.2.trans (hb.mono G4.out.2.size)
    have HB := Lib.hid (And.intro hb (And.intro b2' b3'))
    clear hb b2' b3'
    by_cases hlt : j < na
    · have m3 : (0 : Int) ≤ (j : Int) := by omega
      have m4 : (j : Int) < (na : Int) := by omega
      have m5 : (j : Int) < (nc : Int) := by have := HB5.out; omega
      have fa := G2.out.1
      have fc := G4.out.1
      have hjl : j < ((d, p) :: r).reverse.length := by have := H3.out.hna; simp at this ⊢; omega
      obtain ⟨⟨c0, p0⟩, hcp⟩ : ∃ x, ((d, p) :: r).reverse[j]? = some x := ⟨_, List.getElem?_eq_getElem hjl⟩
      obtain ⟨e1, e2⟩ := fcells_at ((d, p) :: r) j c0 p0 hcp
      obtain ⟨e3, e4⟩ := fcells_at (sh (l.length : Int) x ++ (d, p) :: r) j c0 p0 (by rw [List.reverse_append, List.getElem?_append_left hjl]; exact hcp)
      have fa' := own_below fa HB.out.2.1
      have fc' := own_below fc HB.out.1
      have d1 := own_cell fa' _ _ e1
      have d2 := own_cell fa' _ _ e2
      have d5 := own_cell fc' _ _ e3
      have d6 := own_cell fc' _ _ e4
      clear fa fc fa' fc' e1 e2 e3 e4 hcp hjl
      generalize modeOf c0 = mo at d1 d5
      go_wp2_with fail
      go_quiet (fail)
      go_wp2
      exact ⟨⟨j + 1, by omega, by go_num, below_drewN' HB.out.1 _⟩, by simp [intOf]; omega⟩
    · go_wp2
      go_loopw [12] (fun i wr => ∃ j : Nat, 1 ≤ j ∧ j ≤ nb ∧ i = .int .i64 j ∧ Below w4.heap.size w4 wr) (fun i _ => nb - (intOf i).toNat)
      case atStart => exact ⟨1, by omega, by omega, rfl, HB.out.1⟩
      case round =>
        obtain ⟨i, hi1, hi, rfl, hb⟩ := hrel
        have b2' := (G3.out.2.trans (G4.out.2.mono G3.out.2.size)).trans (hb.mono (Nat.le_trans G3.out.2.size G4.out.2.size))
        have b3' := G4.out.2.trans (hb.mono G4.out.2.size)
        have HB2 := Lib.hid (And.intro hb (And.intro b2' b3'))
        clear hb b2' b3'
        by_cases hlt2 : i < nb
        · obtain ⟨j, rfl⟩ : ∃ j, i = j + 1 := ⟨i - 1, by omega⟩
          have fb' := own_below G3.out.1 HB2.out.2.2
          have fc' := own_below G4.out.1 HB2.out.1
          have hjl : j < x.reverse.length := by have := H3.out.hnb; simp; omega
          obtain ⟨⟨c0, p0⟩, hcp⟩ : ∃ y, x.reverse[j]? = some y := ⟨_, List.getElem?_eq_getElem hjl⟩
          obtain ⟨e1, e2⟩ := fcells_at (x ++ [(84, 0)]) (j + 1) c0 p0 (by rw [List.reverse_append]; exact hcp)
          obtain ⟨e3, e4⟩ := fcells_at (sh (l.length : Int) x ++ (d, p) :: r) (na + j) c0 (p0 + (l.length : Int)) (by
            have hna := H3.out.hna
            rw [List.reverse_append, List.getElem?_append_right (by rw [List.length_reverse]; omega), List.length_reverse, hna, show na + j - na = j by omega]
            unfold sh
            rw [← List.map_reverse, List.getElem?_map, hcp]
            rfl)
          have d1 := own_cell fb' _ _ e1
          have d2 := own_cell fb' _ _ e2
          have d5 := own_cell fc' _ _ e3
          have d6 := own_cell fc' _ _ e4
          have hpb := rAt_pl l1 l1.length (c0, p0) (by rw [H3.out.eb]; exact List.mem_append_left _ (List.mem_reverse.1 (List.mem_of_getElem? hcp)))
          obtain ⟨hp0, hp1⟩ := hpb
          have hp2 : l1.length ≤ 300 := H3.out.n1
          have m6 := HB5.out
          have m7 : (j : Int) + 1 < (nb : Int) := by omega
          have m8 : IntKind.i64.wrap ((na : Int) + ((j : Int) + 1)) = (na : Int) + ((j : Int) + 1) := IntWalk.i64_in _ (by omega)
          have m9 : IntKind.i64.wrap ((na : Int) + ((j : Int) + 1) - 1) = (na : Int) + ((j : Int) + 1) - 1 := IntWalk.i64_in _ (by omega)
          have m10 : 0 ≤ (na : Int) + ((j : Int) + 1) - 1 := by omega
          have m11 : (na : Int) + ((j : Int) + 1) - 1 < (nc : Int) := by omega
          have m12 : ((na : Int) + ((j : Int) + 1) - 1).toNat = na + j := by omega
          have m13 : IntKind.i64.wrap (p0 + (l.length : Int)) = p0 + (l.length : Int) := IntWalk.i64_in _ (by omega)
          clear fb' fc' e1 e2 e3 e4 hcp hjl hp0 hp1 hp2 m6
          generalize modeOf c0 = mo at d1 d5
          go_wp2_with fail
          go_quiet (fail)
          clear m8 m9 m12 m13
          go_wp2
          exact ⟨⟨j + 1 + 1, by omega, by omega, by go_num, below_drewN' HB2.out.1 _⟩, by simp [intOf]; omega⟩
        · go_wp2
          go_ret
          refine ⟨rfl, ?_⟩
          have q2 := G2.out.2
          have q3 := q2.trans (G3.out.2.mono q2.size)
          have q4 := q3.trans (G4.out.2.mono q3.size)
          exact q4.trans (HB2.out.1.mono q4.size)
set_option maxHeartbeats 2000000 in
theorem inner_8 (l t l1 l2 : List UInt8) (w : World) (d : UInt8) (p : Int) (r x : Stk) (f : Bool) (na nb nc : Nat) (md : Int) (hl0 : l.length ≤ 100) (ht0 : t.length ≤ 100) (hmd : modeOf d = md) (h4 : md = 8)
    (hq : inL 41 t = false) (h3 : In3 l t l1 l2 ((d, p) :: r) x f na nb nc) (b1 : 2 ≤ nb) (b2 : nb ≤ 300) (b3 : 1 ≤ na) (b4 : na ≤ 300) (b5 : nc + 1 = na + nb) :
    Calls Try.prog 6 #[.string ⟨l.toArray⟩, .string ⟨t.toArray⟩] w fun e w' => e = .returned (.bool true) ∧ Below w.heap.size w w' := by
  have k1 : decide ((100 : Int) < (l.length : Int)) = false := by simp; omega
  have k2 : decide ((100 : Int) < (t.length : Int)) = false := by simp; omega
  have k3 : ((na : Int) == 0) = false := by simp; omega
  have k4 : decide ((nb : Int) < 2) = false := by simp; omega
  have k5 : ((nc : Int) != (na : Int) + (nb : Int) - 1) = false := by simp; omega
  have k6 : (0 : Int) ≤ (na : Int) - 1 := by omega
  have k7 : ((na : Int) - 1).toNat = r.length := by have := h3.hna; simp at this; omega
  have H3 := Lib.hid h3
  have HS := Lib.hid (And.intro hmd h4)
  have HI := Lib.hid hq
  have HB5 := Lib.hid b5
  clear h3 hq hmd h4 b5
  go_enter Try.func6, Try.ntmps6
  go_wp2_with (first
    | (go_at_call 10
       refine (awake_c _).mono ?_
       rintro e w1 ⟨rfl, hb1⟩)
    | (go_at_call 19
       refine (in_41 _ _ (by omega)).mono ?_
       rintro e w2 ⟨rfl, rfl⟩
       rw [HI.out])
    | (go_at_call 11
       rw [H3.out.s2]
       with_reducible refine (run_m l2 _ (by have := H3.out.n2; omega)).mono ?_
       rintro e w4 ⟨g4, c4, rfl, hfr, hb4⟩
       rw [H3.out.enc, H3.out.ecf]
       unfold Fr at hfr
       rw [H3.out.enc, H3.out.ec] at hfr
       have G4 := Lib.hid (And.intro hfr hb4)
       clear hfr hb4)
    | (go_at_call 11
       rw [H3.out.s1]
       with_reducible refine (run_m l1 _ (by have := H3.out.n1; omega)).mono ?_
       rintro e w3 ⟨g3, c3, rfl, hfr, hb3⟩
       rw [H3.out.enb, H3.out.ebf]
       unfold Fr at hfr
       rw [H3.out.enb, H3.out.eb] at hfr
       have G3 := Lib.hid (And.intro hfr hb3)
       clear hfr hb3 y0)
    | (go_at_call 11
       with_reducible refine (run_m l _ (by omega)).mono ?_
       rintro e w2 ⟨g, c, rfl, hfr, hb2⟩
       rw [H3.out.ena]
       rw [H3.out.ena] at hfr
       obtain ⟨y0, _⟩ := fr_top (k := r.length) hfr H3.out.ea (by have := H3.out.hna; simpa using this.symm) rfl
       rw [HS.out.1, HS.out.2] at y0
       unfold Fr at hfr
       rw [H3.out.ena, H3.out.ea] at hfr
       have G2 := Lib.hid (And.intro hfr (hb1.trans (hb2.mono hb1.size)))
       clear hfr hb2 hb1))
  go_loopw [11] (fun i wr => ∃ j : Nat, j ≤ na ∧ i = .int .i64 j ∧ Below w4.heap.size w4 wr) (fun i _ => na - (intOf i).toNat)
  case atStart => exact ⟨0, by omega, rfl, Below.refl _ _⟩
  case round =>
    obtain ⟨j, hj, rfl, hb⟩ := hrel
    have b2' := (G3.out.2.trans (G4.out.2.mono G3.out.2.size)).trans (hb.mono (Nat.le_trans G3.out.2.size G4.out.2.size))
    have b3' := G4.out.2.trans (hb.mono G4.out.2.size)
    have HB := Lib.hid (And.intro hb (And.intro b2' b3'))
    clear hb b2' b3'
    by_cases hlt : j < na
    · have m3 : (0 : Int) ≤ (j : Int) := by omega
      have m4 : (j : Int) < (na : Int) := by omega
      have m5 : (j : Int) < (nc : Int) := by have := HB5.out; omega
      have fa := G2.out.1
      have fc := G4.out.1
      have hjl : j < ((d, p) :: r).reverse.length := by have := H3.out.hna; simp at this ⊢; omega
      obtain ⟨⟨c0, p0⟩, hcp⟩ : ∃ x, ((d, p) :: r).reverse[j]? = some x := ⟨_, List.getElem?_eq_getElem hjl⟩
      obtain ⟨e1, e2⟩ := fcells_at ((d, p) :: r) j c0 p0 hcp
      obtain ⟨e3, e4⟩ := fcells_at (sh (l.length : Int) x ++ (d, p) :: r) j c0 p0 (by rw [List.reverse_append, List.getElem?_append_left hjl]; exact hcp)
      have fa' := own_below fa HB.out.2.1
      have fc' := own_below fc HB.out.1
      have d1 := own_cell fa' _ _ e1
      have d2 := own_cell fa' _ _ e2
      have d5 := own_cell fc' _ _ e3
      have d6 := own_cell fc' _ _ e4
      clear fa fc fa' fc' e1 e2 e3 e4 hcp hjl
      generalize modeOf c0 = mo at d1 d5
      go_wp2_with fail
      go_quiet (fail)
      go_wp2
      exact ⟨⟨j + 1, by omega, by go_num, below_drewN' HB.out.1 _⟩, by simp [intOf]; omega⟩
    · go_wp2
      go_loopw [12] (fun i wr => ∃ j : Nat, 1 ≤ j ∧ j ≤ nb ∧ i = .int .i64 j ∧ Below w4.heap.size w4 wr) (fun i _ => nb - (intOf i).toNat)
      case atStart => exact ⟨1, by omega, by omega, rfl, HB.out.1⟩
      case round =>
        obtain ⟨i, hi1, hi, rfl, hb⟩ := hrel
        have b2' := (G3.out.2.trans (G4.out.2.mono G3.out.2.size)).trans (hb.mono (Nat.le_trans G3.out.2.size G4.out.2.size))
        have b3' := G4.out.2.trans (hb.mono G4.out.2.size)
        have HB2 := Lib.hid (And.intro hb (And.intro b2' b3'))
        clear hb b2' b3'
        by_cases hlt2 : i < nb
        · obtain ⟨j, rfl⟩ : ∃ j, i = j + 1 := ⟨i - 1, by omega⟩
          have fb' := own_below G3.out.1 HB2.out.2.2
          have fc' := own_below G4.out.1 HB2.out.1
          have hjl : j < x.reverse.length := by have := H3.out.hnb; simp; omega
          obtain ⟨⟨c0, p0⟩, hcp⟩ : ∃ y, x.reverse[j]? = some y := ⟨_, List.getElem?_eq_getElem hjl⟩
          obtain ⟨e1, e2⟩ := fcells_at (x ++ [(84, 0)]) (j + 1) c0 p0 (by rw [List.reverse_append]; exact hcp)
          obtain ⟨e3, e4⟩ := fcells_at (sh (l.length : Int) x ++ (d, p) :: r) (na + j) c0 (p0 + (l.length : Int)) (by
            have hna := H3.out.hna
            rw [List.reverse_append, List.getElem?_append_right (by rw [List.length_reverse]; omega), List.length_reverse, hna, show na + j - na = j by omega]
            unfold sh
            rw [← List.map_reverse, List.getElem?_map, hcp]
            rfl)
          have d1 := own_cell fb' _ _ e1
          have d2 := own_cell fb' _ _ e2
          have d5 := own_cell fc' _ _ e3
          have d6 := own_cell fc' _ _ e4
          have hpb := rAt_pl l1 l1.length (c0, p0) (by rw [H3.out.eb]; exact List.mem_append_left _ (List.mem_reverse.1 (List.mem_of_getElem? hcp)))
          obtain ⟨hp0, hp1⟩ := hpb
          have hp2 : l1.length ≤ 300 := H3.out.n1
          have m6 := HB5.out
          have m7 : (j : Int) + 1 < (nb : Int) := by omega
          have m8 : IntKind.i64.wrap ((na : Int) + ((j : Int) + 1)) = (na : Int) + ((j : Int) + 1) := IntWalk.i64_in _ (by omega)
          have m9 : IntKind.i64.wrap ((na : Int) + ((j : Int) + 1) - 1) = (na : Int) + ((j : Int) + 1) - 1 := IntWalk.i64_in _ (by omega)
          have m10 : 0 ≤ (na : Int) + ((j : Int) + 1) - 1 := by omega
          have m11 : (na : Int) + ((j : Int) + 1) - 1 < (nc : Int) := by omega
          have m12 : ((na : Int) + ((j : Int) + 1) - 1).toNat = na + j := by omega
          have m13 : IntKind.i64.wrap (p0 + (l.length : Int)) = p0 + (l.length : Int) := IntWalk.i64_in _ (by omega)
          clear fb' fc' e1 e2 e3 e4 hcp hjl hp0 hp1 hp2 m6
          generalize modeOf c0 = mo at d1 d5
          go_wp2_with fail
          go_quiet (fail)
          clear m8 m9 m12 m13
          go_wp2
          exact ⟨⟨j + 1 + 1, by omega, by omega, by go_num, below_drewN' HB2.out.1 _⟩, by simp [intOf]; omega⟩
        · go_wp2
          go_ret
          refine ⟨rfl, ?_⟩
          have q2 := G2.out.2
          have q3 := q2.trans (G3.out.2.mono q2.size)
          have q4 := q3.trans (G4.out.2.mono q3.size)
          exact q4.trans (HB2.out.1.mono q4.size)
set_option maxHeartbeats 2000000 in
theorem inner_9 (l t l1 l2 : List UInt8) (w : World) (d : UInt8) (p : Int) (r x : Stk) (f : Bool) (na nb nc : Nat) (md : Int) (hl0 : l.length ≤ 100) (ht0 : t.length ≤ 100) (hmd : modeOf d = md) (h4 : md = 9)
    (hq : inL 41 t = false) (h3 : In3 l t l1 l2 ((d, p) :: r) x f na nb nc) (b1 : 2 ≤ nb) (b2 : nb ≤ 300) (b3 : 1 ≤ na) (b4 : na ≤ 300) (b5 : nc + 1 = na + nb) :
    Calls Try.prog 6 #[.string ⟨l.toArray⟩, .string ⟨t.toArray⟩] w fun e w' => e = .returned (.bool true) ∧ Below w.heap.size w w' := by
  have k1 : decide ((100 : Int) < (l.length : Int)) = false := by simp; omega
  have k2 : decide ((100 : Int) < (t.length : Int)) = false := by simp; omega
  have k3 : ((na : Int) == 0) = false := by simp; omega
  have k4 : decide ((nb : Int) < 2) = false := by simp; omega
  have k5 : ((nc : Int) != (na : Int) + (nb : Int) - 1) = false := by simp; omega
  have k6 : (0 : Int) ≤ (na : Int) - 1 := by omega
  have k7 : ((na : Int) - 1).toNat = r.length := by have := h3.hna; simp at this; omega
  have H3 := Lib.hid h3
  have HS := Lib.hid (And.intro hmd h4)
  have HI := Lib.hid hq
  have HB5 := Lib.hid b5
  clear h3 hq hmd h4 b5
  go_enter Try.func6, Try.ntmps6
  go_wp2_with (first
    | (go_at_call 10
       refine (awake_c _).mono ?_
       rintro e w1 ⟨rfl, hb1⟩)
    | (go_at_call 19
       refine (in_41 _ _ (by omega)).mono ?_
       rintro e w2 ⟨rfl, rfl⟩
       rw [HI.out])
    | (go_at_call 11
       rw [H3.out.s2]
       with_reducible refine (run_m l2 _ (by have := H3.out.n2; omega)).mono ?_
       rintro e w4 ⟨g4, c4, rfl, hfr, hb4⟩
       rw [H3.out.enc, H3.out.ecf]
       unfold Fr at hfr
       rw [H3.out.enc, H3.out.ec] at hfr
       have G4 := Lib.hid (And.intro hfr hb4)
       clear hfr hb4)
    | (go_at_call 11
       rw [H3.out.s1]
       with_reducible refine (run_m l1 _ (by have := H3.out.n1; omega)).mono ?_
       rintro e w3 ⟨g3, c3, rfl, hfr, hb3⟩
       rw [H3.out.enb, H3.out.ebf]
       unfold Fr at hfr
       rw [H3.out.enb, H3.out.eb] at hfr
       have G3 := Lib.hid (And.intro hfr hb3)
       clear hfr hb3 y0)
    | (go_at_call 11
       with_reducible refine (run_m l _ (by omega)).mono ?_
       rintro e w2 ⟨g, c, rfl, hfr, hb2⟩
       rw [H3.out.ena]
       rw [H3.out.ena] at hfr
       obtain ⟨y0, _⟩ := fr_top (k := r.length) hfr H3.out.ea (by have := H3.out.hna; simpa using this.symm) rfl
       rw [HS.out.1, HS.out.2] at y0
       unfold Fr at hfr
       rw [H3.out.ena, H3.out.ea] at hfr
       have G2 := Lib.hid (And.intro hfr (hb1.trans (hb2.mono hb1.size)))
       clear hfr hb2 hb1))
  go_loopw [11] (fun i wr => ∃ j : Nat, j ≤ na ∧ i = .int .i64 j ∧ Below w4.heap.size w4 wr) (fun i _ => na - (intOf i).toNat)
  case atStart => exact ⟨0, by omega, rfl, Below.refl _ _⟩
  case round =>
    obtain ⟨j, hj, rfl, hb⟩ := hrel
    have b2' := (G3.out.2.trans (G4.out.2.mono G3.out.2.size)).trans (hb.mono (Nat.le_trans G3.out.2.size G4.out.2.size))
    have b3' := G4.out.2.trans (hb.mono G4.out.2.size)
    have HB := Lib.hid (And.intro hb (And.intro b2' b3'))
    clear hb b2' b3'
    by_cases hlt : j < na
    · have m3 : (0 : Int) ≤ (j : Int) := by omega
      have m4 : (j : Int) < (na : Int) := by omega
      have m5 : (j : Int) < (nc : Int) := by have := HB5.out; omega
      have fa := G2.out.1
      have fc := G4.out.1
      have hjl : j < ((d, p) :: r).reverse.length := by have := H3.out.hna; simp at this ⊢; omega
      obtain ⟨⟨c0, p0⟩, hcp⟩ : ∃ x, ((d, p) :: r).reverse[j]? = some x := ⟨_, List.getElem?_eq_getElem hjl⟩
      obtain ⟨e1, e2⟩ := fcells_at ((d, p) :: r) j c0 p0 hcp
      obtain ⟨e3, e4⟩ := fcells_at (sh (l.length : Int) x ++ (d, p) :: r) j c0 p0 (by rw [List.reverse_append, List.getElem?_append_left hjl]; exact hcp)
      have fa' := own_below fa HB.out.2.1
      have fc' := own_below fc HB.out.1
      have d1 := own_cell fa' _ _ e1
      have d2 := own_cell fa' _ _ e2
      have d5 := own_cell fc' _ _ e3
      have d6 := own_cell fc' _ _ e4
      clear fa fc fa' fc' e1 e2 e3 e4 hcp hjl
      generalize modeOf c0 = mo at d1 d5
      go_wp2_with fail
      go_quiet (fail)
      go_wp2
      exact ⟨⟨j + 1, by omega, by go_num, below_drewN' HB.out.1 _⟩, by simp [intOf]; omega⟩
    · go_wp2
      go_loopw [12] (fun i wr => ∃ j : Nat, 1 ≤ j ∧ j ≤ nb ∧ i = .int .i64 j ∧ Below w4.heap.size w4 wr) (fun i _ => nb - (intOf i).toNat)
      case atStart => exact ⟨1, by omega, by omega, rfl, HB.out.1⟩
      case round =>
        obtain ⟨i, hi1, hi, rfl, hb⟩ := hrel
        have b2' := (G3.out.2.trans (G4.out.2.mono G3.out.2.size)).trans (hb.mono (Nat.le_trans G3.out.2.size G4.out.2.size))
        have b3' := G4.out.2.trans (hb.mono G4.out.2.size)
        have HB2 := Lib.hid (And.intro hb (And.intro b2' b3'))
        clear hb b2' b3'
        by_cases hlt2 : i < nb
        · obtain ⟨j, rfl⟩ : ∃ j, i = j + 1 := ⟨i - 1, by omega⟩
          have fb' := own_below G3.out.1 HB2.out.2.2
          have fc' := own_below G4.out.1 HB2.out.1
          have hjl : j < x.reverse.length := by have := H3.out.hnb; simp; omega
          obtain ⟨⟨c0, p0⟩, hcp⟩ : ∃ y, x.reverse[j]? = some y := ⟨_, List.getElem?_eq_getElem hjl⟩
          obtain ⟨e1, e2⟩ := fcells_at (x ++ [(84, 0)]) (j + 1) c0 p0 (by rw [List.reverse_append]; exact hcp)
          obtain ⟨e3, e4⟩ := fcells_at (sh (l.length : Int) x ++ (d, p) :: r) (na + j) c0 (p0 + (l.length : Int)) (by
            have hna := H3.out.hna
            rw [List.reverse_append, List.getElem?_append_right (by rw [List.length_reverse]; omega), List.length_reverse, hna, show na + j - na = j by omega]
            unfold sh
            rw [← List.map_reverse, List.getElem?_map, hcp]
            rfl)
          have d1 := own_cell fb' _ _ e1
          have d2 := own_cell fb' _ _ e2
          have d5 := own_cell fc' _ _ e3
          have d6 := own_cell fc' _ _ e4
          have hpb := rAt_pl l1 l1.length (c0, p0) (by rw [H3.out.eb]; exact List.mem_append_left _ (List.mem_reverse.1 (List.mem_of_getElem? hcp)))
          obtain ⟨hp0, hp1⟩ := hpb
          have hp2 : l1.length ≤ 300 := H3.out.n1
          have m6 := HB5.out
          have m7 : (j : Int) + 1 < (nb : Int) := by omega
          have m8 : IntKind.i64.wrap ((na : Int) + ((j : Int) + 1)) = (na : Int) + ((j : Int) + 1) := IntWalk.i64_in _ (by omega)
          have m9 : IntKind.i64.wrap ((na : Int) + ((j : Int) + 1) - 1) = (na : Int) + ((j : Int) + 1) - 1 := IntWalk.i64_in _ (by omega)
          have m10 : 0 ≤ (na : Int) + ((j : Int) + 1) - 1 := by omega
          have m11 : (na : Int) + ((j : Int) + 1) - 1 < (nc : Int) := by omega
          have m12 : ((na : Int) + ((j : Int) + 1) - 1).toNat = na + j := by omega
          have m13 : IntKind.i64.wrap (p0 + (l.length : Int)) = p0 + (l.length : Int) := IntWalk.i64_in _ (by omega)
          clear fb' fc' e1 e2 e3 e4 hcp hjl hp0 hp1 hp2 m6
          generalize modeOf c0 = mo at d1 d5
          go_wp2_with fail
          go_quiet (fail)
          clear m8 m9 m12 m13
          go_wp2
          exact ⟨⟨j + 1 + 1, by omega, by omega, by go_num, below_drewN' HB2.out.1 _⟩, by simp [intOf]; omega⟩
        · go_wp2
          go_ret
          refine ⟨rfl, ?_⟩
          have q2 := G2.out.2
          have q3 := q2.trans (G3.out.2.mono q2.size)
          have q4 := q3.trans (G4.out.2.mono q3.size)
          exact q4.trans (HB2.out.1.mono q4.size)
set_option maxHeartbeats 2000000 in
theorem inner_10 (l t l1 l2 : List UInt8) (w : World) (d : UInt8) (p : Int) (r x : Stk) (f : Bool) (na nb nc : Nat) (md : Int) (hl0 : l.length ≤ 100) (ht0 : t.length ≤ 100) (hmd : modeOf d = md) (h4 : md = 10)
    (hq : inL 41 t = false) (h3 : In3 l t l1 l2 ((d, p) :: r) x f na nb nc) (b1 : 2 ≤ nb) (b2 : nb ≤ 300) (b3 : 1 ≤ na) (b4 : na ≤ 300) (b5 : nc + 1 = na + nb) :
    Calls Try.prog 6 #[.string ⟨l.toArray⟩, .string ⟨t.toArray⟩] w fun e w' => e = .returned (.bool true) ∧ Below w.heap.size w w' := by
  have k1 : decide ((100 : Int) < (l.length : Int)) = false := by simp; omega
  have k2 : decide ((100 : Int) < (t.length : Int)) = false := by simp; omega
  have k3 : ((na : Int) == 0) = false := by simp; omega
  have k4 : decide ((nb : Int) < 2) = false := by simp; omega
  have k5 : ((nc : Int) != (na : Int) + (nb : Int) - 1) = false := by simp; omega
  have k6 : (0 : Int) ≤ (na : Int) - 1 := by omega
  have k7 : ((na : Int) - 1).toNat = r.length := by have := h3.hna; simp at this; omega
  have H3 := Lib.hid h3
  have HS := Lib.hid (And.intro hmd h4)
  have HI := Lib.hid hq
  have HB5 := Lib.hid b5
  clear h3 hq hmd h4 b5
  go_enter Try.func6, Try.ntmps6
  go_wp2_with (first
    | (go_at_call 10
       refine (awake_c _).mono ?_
       rintro e w1 ⟨rfl, hb1⟩)
    | (go_at_call 19
       refine (in_41 _ _ (by omega)).mono ?_
       rintro e w2 ⟨rfl, rfl⟩
       rw [HI.out])
    | (go_at_call 11
       rw [H3.out.s2]
       with_reducible refine (run_m l2 _ (by have := H3.out.n2; omega)).mono ?_
       rintro e w4 ⟨g4, c4, rfl, hfr, hb4⟩
       rw [H3.out.enc, H3.out.ecf]
       unfold Fr at hfr
       rw [H3.out.enc, H3.out.ec] at hfr
       have G4 := Lib.hid (And.intro hfr hb4)
       clear hfr hb4)
    | (go_at_call 11
       rw [H3.out.s1]
       with_reducible refine (run_m l1 _ (by have := H3.out.n1; omega)).mono ?_
       rintro e w3 ⟨g3, c3, rfl, hfr, hb3⟩
       rw [H3.out.enb, H3.out.ebf]
       unfold Fr at hfr
       rw [H3.out.enb, H3.out.eb] at hfr
       have G3 := Lib.hid (And.intro hfr hb3)
       clear hfr hb3 y0)
    | (go_at_call 11
       with_reducible refine (run_m l _ (by omega)).mono ?_
       rintro e w2 ⟨g, c, rfl, hfr, hb2⟩
       rw [H3.out.ena]
       rw [H3.out.ena] at hfr
       obtain ⟨y0, _⟩ := fr_top (k := r.length) hfr H3.out.ea (by have := H3.out.hna; simpa using this.symm) rfl
       rw [HS.out.1, HS.out.2] at y0
       unfold Fr at hfr
       rw [H3.out.ena, H3.out.ea] at hfr
       have G2 := Lib.hid (And.intro hfr (hb1.trans (hb2.mono hb1.size)))
       clear hfr hb2 hb1))
  go_loopw [11] (fun i wr => ∃ j : Nat, j ≤ na ∧ i = .int .i64 j ∧ Below w4.heap.size w4 wr) (fun i _ => na - (intOf i).toNat)
  case atStart => exact ⟨0, by omega, rfl, Below.refl _ _⟩
  case round =>
    obtain ⟨j, hj, rfl, hb⟩ := hrel
    have b2' := (G3.out.2.trans (G4.out.2.mono G3.out.2.size)).trans (hb.mono (Nat.le_trans G3.out.2.size G4.out.2.size))
    have b3' := G4.out.2.trans (hb.mono G4.out.2.size)
    have HB := Lib.hid (And.intro hb (And.intro b2' b3'))
    clear hb b2' b3'
    by_cases hlt : j < na
    · have m3 : (0 : Int) ≤ (j : Int) := by omega
      have m4 : (j : Int) < (na : Int) := by omega
      have m5 : (j : Int) < (nc : Int) := by have := HB5.out; omega
      have fa := G2.out.1
      have fc := G4.out.1
      have hjl : j < ((d, p) :: r).reverse.length := by have := H3.out.hna; simp at this ⊢; omega
      obtain ⟨⟨c0, p0⟩, hcp⟩ : ∃ x, ((d, p) :: r).reverse[j]? = some x := ⟨_, List.getElem?_eq_getElem hjl⟩
      obtain ⟨e1, e2⟩ := fcells_at ((d, p) :: r) j c0 p0 hcp
      obtain ⟨e3, e4⟩ := fcells_at (sh (l.length : Int) x ++ (d, p) :: r) j c0 p0 (by rw [List.reverse_append, List.getElem?_append_left hjl]; exact hcp)
      have fa' := own_below fa HB.out.2.1
      have fc' := own_below fc HB.out.1
      have d1 := own_cell fa' _ _ e1
      have d2 := own_cell fa' _ _ e2
      have d5 := own_cell fc' _ _ e3
      have d6 := own_cell fc' _ _ e4
      clear fa fc fa' fc' e1 e2 e3 e4 hcp hjl
      generalize modeOf c0 = mo at d1 d5
      go_wp2_with fail
      go_quiet (fail)
      go_wp2
      exact ⟨⟨j + 1, by omega, by go_num, below_drewN' HB.out.1 _⟩, by simp [intOf]; omega⟩
    · go_wp2
      go_loopw [12] (fun i wr => ∃ j : Nat, 1 ≤ j ∧ j ≤ nb ∧ i = .int .i64 j ∧ Below w4.heap.size w4 wr) (fun i _ => nb - (intOf i).toNat)
      case atStart => exact ⟨1, by omega, by omega, rfl, HB.out.1⟩
      case round =>
        obtain ⟨i, hi1, hi, rfl, hb⟩ := hrel
        have b2' := (G3.out.2.trans (G4.out.2.mono G3.out.2.size)).trans (hb.mono (Nat.le_trans G3.out.2.size G4.out.2.size))
        have b3' := G4.out.2.trans (hb.mono G4.out.2.size)
        have HB2 := Lib.hid (And.intro hb (And.intro b2' b3'))
        clear hb b2' b3'
        by_cases hlt2 : i < nb
        · obtain ⟨j, rfl⟩ : ∃ j, i = j + 1 := ⟨i - 1, by omega⟩
          have fb' := own_below G3.out.1 HB2.out.2.2
          have fc' := own_below G4.out.1 HB2.out.1
          have hjl : j < x.reverse.length := by have := H3.out.hnb; simp; omega
          obtain ⟨⟨c0, p0⟩, hcp⟩ : ∃ y, x.reverse[j]? = some y := ⟨_, List.getElem?_eq_getElem hjl⟩
          obtain ⟨e1, e2⟩ := fcells_at (x ++ [(84, 0)]) (j + 1) c0 p0 (by rw [List.reverse_append]; exact hcp)
          obtain ⟨e3, e4⟩ := fcells_at (sh (l.length : Int) x ++ (d, p) :: r) (na + j) c0 (p0 + (l.length : Int)) (by
            have hna := H3.out.hna
            rw [List.reverse_append, List.getElem?_append_right (by rw [List.length_reverse]; omega), List.length_reverse, hna, show na + j - na = j by omega]
            unfold sh
            rw [← List.map_reverse, List.getElem?_map, hcp]
            rfl)
          have d1 := own_cell fb' _ _ e1
          have d2 := own_cell fb' _ _ e2
          have d5 := own_cell fc' _ _ e3
          have d6 := own_cell fc' _ _ e4
          have hpb := rAt_pl l1 l1.length (c0, p0) (by rw [H3.out.eb]; exact List.mem_append_left _ (List.mem_reverse.1 (List.mem_of_getElem? hcp)))
          obtain ⟨hp0, hp1⟩ := hpb
          have hp2 : l1.length ≤ 300 := H3.out.n1
          have m6 := HB5.out
          have m7 : (j : Int) + 1 < (nb : Int) := by omega
          have m8 : IntKind.i64.wrap ((na : Int) + ((j : Int) + 1)) = (na : Int) + ((j : Int) + 1) := IntWalk.i64_in _ (by omega)
          have m9 : IntKind.i64.wrap ((na : Int) + ((j : Int) + 1) - 1) = (na : Int) + ((j : Int) + 1) - 1 := IntWalk.i64_in _ (by omega)
          have m10 : 0 ≤ (na : Int) + ((j : Int) + 1) - 1 := by omega
          have m11 : (na : Int) + ((j : Int) + 1) - 1 < (nc : Int) := by omega
          have m12 : ((na : Int) + ((j : Int) + 1) - 1).toNat = na + j := by omega
          have m13 : IntKind.i64.wrap (p0 + (l.length : Int)) = p0 + (l.length : Int) := IntWalk.i64_in _ (by omega)
          clear fb' fc' e1 e2 e3 e4 hcp hjl hp0 hp1 hp2 m6
          generalize modeOf c0 = mo at d1 d5
          go_wp2_with fail
          go_quiet (fail)
          clear m8 m9 m12 m13
          go_wp2
          exact ⟨⟨j + 1 + 1, by omega, by omega, by go_num, below_drewN' HB2.out.1 _⟩, by simp [intOf]; omega⟩
        · go_wp2
          go_ret
          refine ⟨rfl, ?_⟩
          have q2 := G2.out.2
          have q3 := q2.trans (G3.out.2.mono q2.size)
          have q4 := q3.trans (G4.out.2.mono q3.size)
          exact q4.trans (HB2.out.1.mono q4.size)
set_option maxHeartbeats 1000000 in
theorem modesInner_w (l t : List UInt8) (w : World) (hm : l.length ≤ 9223372036854775807) (hm2 : t.length ≤ 9223372036854775807) :
    Calls Try.prog 6 #[.string ⟨l.toArray⟩, .string ⟨t.toArray⟩] w fun e w' => e = .returned (.bool true) ∧ Below w.heap.size w w' := by
  by_cases hl : 100 < l.length
  · go_enter Try.func6, Try.ntmps6
    go_wp2_with (go_at_call 10; refine (awake_c _).mono ?_; rintro e w1 ⟨rfl, hb1⟩)
    go_ret
    exact ⟨rfl, hb1⟩
  by_cases ht : 100 < t.length
  · go_enter Try.func6, Try.ntmps6
    go_wp2_with (go_at_call 10; refine (awake_c _).mono ?_; rintro e w1 ⟨rfl, hb1⟩)
    go_ret
    exact ⟨rfl, hb1⟩
  have hl0 : l.length ≤ 100 := by omega
  have ht0 : t.length ≤ 100 := by omega
  have k1 : decide ((100 : Int) < (l.length : Int)) = false := by simp; omega
  have k2 : decide ((100 : Int) < (t.length : Int)) = false := by simp; omega
  cases hq : inL 41 t
  · have hbot := rAt_bot l l.length
    have hlen := rAt_len l l.length
    obtain ⟨d, p, r, hst⟩ : ∃ d p r, (rAt l l.length).1 = (d, p) :: r := by
      match h : (rAt l l.length).1, hbot.ne with
      | (d, p) :: r, _ => exact ⟨d, p, r, rfl⟩
    have hn : (rAt l l.length).1.length = r.length + 1 := by rw [hst]; rfl
    have hr : r.length ≤ 100 := by rw [hst] at hlen; simp at hlen; omega
    have HS := Lib.hid (And.intro hst hn)
    clear hst hn hbot hlen
    have HQ := Lib.hid hq
    clear hl ht hm hm2
    by_cases hc : DolB d = true
    · obtain ⟨l1, l2, x, f, na, nb, nc, h3, b1, b2, b3, b4, b5⟩ := in3_of l t d p r hl0 ht0 HQ.out HS.out.1 hc
      rcases dol_or d hc with h | h | h | h | h | h | h | h
      · exact inner_0 l t l1 l2 w d p r x f na nb nc _ hl0 ht0 rfl (by unfold modeOf; simp [h]) HQ.out h3 b1 b2 b3 b4 b5
      · exact inner_1 l t l1 l2 w d p r x f na nb nc _ hl0 ht0 rfl (by unfold modeOf; simp [h]) HQ.out h3 b1 b2 b3 b4 b5
      · exact inner_2 l t l1 l2 w d p r x f na nb nc _ hl0 ht0 rfl (by unfold modeOf; simp [h]) HQ.out h3 b1 b2 b3 b4 b5
      · exact inner_5 l t l1 l2 w d p r x f na nb nc _ hl0 ht0 rfl (by unfold modeOf; simp [h]) HQ.out h3 b1 b2 b3 b4 b5
      · exact inner_7 l t l1 l2 w d p r x f na nb nc _ hl0 ht0 rfl (by unfold modeOf; simp [h]) HQ.out h3 b1 b2 b3 b4 b5
      · exact inner_8 l t l1 l2 w d p r x f na nb nc _ hl0 ht0 rfl (by unfold modeOf; simp [h]) HQ.out h3 b1 b2 b3 b4 b5
      · exact inner_9 l t l1 l2 w d p r x f na nb nc _ hl0 ht0 rfl (by unfold modeOf; simp [h]) HQ.out h3 b1 b2 b3 b4 b5
      · exact inner_10 l t l1 l2 w d p r x f na nb nc _ hl0 ht0 rfl (by unfold modeOf; simp [h]) HQ.out h3 b1 b2 b3 b4 b5
    · have hmd : ((modeOf d : Int) == 0) = false ∧ ((modeOf d : Int) == 1) = false ∧ ((modeOf d : Int) == 2) = false ∧ ((modeOf d : Int) == 5) = false ∧ ((modeOf d : Int) == 7) = false ∧ ((modeOf d : Int) == 8) = false ∧ ((modeOf d : Int) == 9) = false ∧ ((modeOf d : Int) == 10) = false := by
        have := byte_all (fun d => DolB d || ((modeOf d : Int) == 0) == false && ((modeOf d : Int) == 1) == false && ((modeOf d : Int) == 2) == false && ((modeOf d : Int) == 5) == false && ((modeOf d : Int) == 7) == false && ((modeOf d : Int) == 8) == false && ((modeOf d : Int) == 9) == false && ((modeOf d : Int) == 10) == false) (by decide +kernel) d
        simpa [hc, and_assoc] using this
      obtain ⟨m0, m1, m2, m3, m4, m5, m6, m7⟩ := hmd
      clear hc
      go_enter Try.func6, Try.ntmps6
      go_wp2_with (first
        | (go_at_call 10
           refine (awake_c _).mono ?_
           rintro e w1 ⟨rfl, hb1⟩)
        | (go_at_call 19
           refine (in_41 _ _ (by omega)).mono ?_
           rintro e w2 ⟨rfl, rfl⟩
           rw [HQ.out])
        | (go_at_call 11
           refine (run_m l _ (by omega)).mono ?_
           rintro e w2 ⟨g, c, rfl, hfr, hb2⟩
           rw [HS.out.2]
           rw [HS.out.2] at hfr
           obtain ⟨y0, y1⟩ := fr_top hfr HS.out.1 rfl rfl
           have H2 := Lib.hid (And.intro hfr (hb1.trans (hb2.mono hb1.size)))
           clear hfr hb2 hb1))
      go_ret
      exact ⟨rfl, H2.out.2⟩
  · go_enter Try.func6, Try.ntmps6
    go_wp2_with (first
      | (go_at_call 10
         refine (awake_c _).mono ?_
         rintro e w1 ⟨rfl, hb1⟩)
      | (go_at_call 19
         refine (in_41 _ _ (by omega)).mono ?_
         rintro e w2 ⟨rfl, rfl⟩
         rw [hq]))
    go_ret
    exact ⟨rfl, hb1⟩
end Go.Proofs.Ytailnilhhbjkmaa
