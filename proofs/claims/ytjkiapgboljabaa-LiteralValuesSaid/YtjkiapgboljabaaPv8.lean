/- quillwortref08.Bare, Expands, Pattern: over the pieces. -/
import Derived.Test.YtjkiapgboljabaaBv8
import Derived.Test.YtjkiapgboljabaaPr8
namespace Go.Proofs.Ytjkiapgboljabaa
open Go.RowKit
set_option linter.unusedVariables false
set_option linter.unusedSimpArgs false
set_option maxRecDepth 100000
/-- A pattern: what is quoted has a backslash ahead of each byte. -/
def qbs (l : List UInt8) : List UInt8 := l.flatMap fun c => [92, c]
def patP (p : Pc) : List UInt8 := if p.qu = true then qbs p.tx else p.tx
def patL (L : List Pc) : List UInt8 := L.flatMap patP
theorem qbs_len (l : List UInt8) : (qbs l).length = 2 * l.length := by
  induction l with
  | nil => rfl
  | cons a r ih => simp [qbs] at ih ⊢; omega
theorem qbs_snoc (l : List UInt8) (c : UInt8) : qbs (l ++ [c]) = qbs l ++ [92, c] := by simp [qbs]
theorem patP_len (p : Pc) : (patP p).length ≤ 2 * p.tx.length := by
  unfold patP
  split
  · rw [qbs_len]; exact Nat.le_refl _
  · omega
theorem patL_snoc (L : List Pc) (x : Pc) : patL (L ++ [x]) = patL L ++ patP x := by simp [patL]
theorem txL_take {L : List Pc} {k : Nat} {x : Pc} (h : L[k]? = some x) : txL (L.take (k + 1)) = txL (L.take k) ++ x.tx := by
  obtain ⟨h1, h2⟩ := List.getElem?_eq_some_iff.1 h
  rw [List.take_succ_eq_append_getElem h1, h2, txL_snoc]
theorem patL_take {L : List Pc} {k : Nat} {x : Pc} (h : L[k]? = some x) : patL (L.take (k + 1)) = patL (L.take k) ++ patP x := by
  obtain ⟨h1, h2⟩ := List.getElem?_eq_some_iff.1 h
  rw [List.take_succ_eq_append_getElem h1, h2, patL_snoc]
theorem txL_tlen (L : List Pc) (k N : Nat) (h : ∀ x ∈ L, x.tx.length ≤ N) : (txL (L.take k)).length ≤ L.length * N := by
  have h1 := txL_len (L.take k) N (fun x hx => h x (List.mem_of_mem_take hx))
  have h2 : (L.take k).length ≤ L.length := by simp; omega
  exact Nat.le_trans h1 (Nat.mul_le_mul_right N h2)
theorem patL_len : ∀ (L : List Pc) (N : Nat), (∀ x ∈ L, x.tx.length ≤ N) → (patL L).length ≤ L.length * (2 * N)
  | [], _, _ => by simp [patL]
  | x :: r, N, h => by
    have h1 := patL_len r N (fun y hy => h y (List.mem_cons_of_mem _ hy))
    have h2 := h x List.mem_cons_self
    have h3 := patP_len x
    have e : (patL (x :: r)).length = (patP x).length + (patL r).length := by simp [patL]
    rw [e, List.length_cons, Nat.succ_mul]
    omega
set_option maxHeartbeats 2000000 in
theorem bare_r (l : List UInt8) (w : World) (hl : l.length ≤ 900) :
    Calls Try.prog 40 #[.string ⟨l.toArray⟩] w fun e w' => e = .returned (.string ⟨(txL (pcsL l)).toArray⟩) ∧ Below w.heap.size w w' := by
  obtain ⟨L, hL⟩ : ∃ L, L = pcsL l := ⟨_, rfl⟩
  have hpl : L.length ≤ 2 * l.length := by rw [hL]; exact pcsL_len l
  have hx9 : ∀ x ∈ L, x.tx.length ≤ 900 := fun x hx => Nat.le_trans (pcsL_tx l x (by rw [← hL]; exact hx)) hl
  have hT : ∀ k, (txL (L.take k)).length ≤ 2000000 := fun k => by have := txL_tlen L k 900 hx9; have := Nat.mul_le_mul_right 900 (show L.length ≤ 1800 by omega); omega
  rw [← hL]
  have HL := Lib.hid (And.intro hL (And.intro hx9 hT))
  clear hL hx9 hT
  go_enter Try.func40, Try.ntmps40
  go_wp2_with (
    (go_at_call 37
     refine (pieces_r l _ hl L (by rw [HL.out.1, pcsR_L])).mono ?_
     rintro e w3 ⟨v, rfl, ho, hb3⟩
     obtain ⟨A, n3, c, rfl⟩ := own_form' ho
     obtain rfl := own_len ho
     have H3 := Lib.hid (And.intro ho hb3)
     clear ho hb3))
  go_loopw [5, 4] (fun i s wr => ∃ k : Nat, k ≤ L.length ∧ i = .int .i64 k ∧ s = .string ⟨(txL (L.take k)).toArray⟩ ∧ Below w3.heap.size w3 wr) (fun i _ _ => L.length - (intOf i).toNat)
  case atStart => exact ⟨0, by omega, rfl, rfl, Below.refl _ _⟩
  case round =>
    obtain ⟨k, hk, rfl, rfl, hb⟩ := hrel
    by_cases hlt : k < L.length
    · have u1 : (k : Int) < (L.length : Int) := by omega
      have u2 : (0 : Int) ≤ (k : Int) := by omega
      obtain ⟨x, hx⟩ : ∃ x, L[k]? = some x := ⟨_, List.getElem?_eq_getElem hlt⟩
      obtain ⟨g, o, rfl, _, y0, y1, y2⟩ := rd_pc (Rd.of_own (own_below H3.out.1 hb)) hx rfl
      obtain ⟨T, hT⟩ : ∃ T, T = txL (L.take k) := ⟨_, rfl⟩
      have hTl : T.length ≤ 2000000 := by rw [hT]; exact HL.out.2.2 k
      have hxl := HL.out.2.1 x (List.mem_of_getElem? hx)
      have e1 := txL_take hx
      rw [← hT] at e1 ⊢
      have hcat : ByteArray.mk T.toArray ++ ByteArray.mk x.tx.toArray = ⟨(T ++ x.tx).toArray⟩ := ba_append _ _
      have hclen : ¬ 9223372036854775807 < T.length + x.tx.length := by omega
      have HB := Lib.hid (And.intro hb e1)
      clear hb hx e1 hT
      go_wp2_with fail
      exact ⟨⟨k + 1, by omega, by go_num, by rw [HB.out.2], HB.out.1⟩, by simp [intOf]; omega⟩
    · obtain rfl : k = L.length := by omega
      rw [List.take_of_length_le (Nat.le_refl _)]
      have HB := Lib.hid hb
      clear hb
      go_wp2_with fail
      go_ret
      exact ⟨rfl, H3.out.2.trans (HB.out.mono H3.out.2.size)⟩
set_option maxHeartbeats 2000000 in
theorem expands8_r (l : List UInt8) (w : World) (hl : l.length ≤ 900) :
    Calls Try.prog 41 #[.string ⟨l.toArray⟩] w fun e w' => e = .returned (.bool ((pcsL l).any (·.ex))) ∧ Below w.heap.size w w' := by
  obtain ⟨L, hL⟩ : ∃ L, L = pcsL l := ⟨_, rfl⟩
  have hpl : L.length ≤ 2 * l.length := by rw [hL]; exact pcsL_len l
  rw [← hL]
  have HL := Lib.hid hL
  clear hL
  go_enter Try.func41, Try.ntmps41
  go_wp2_with (
    (go_at_call 37
     refine (pieces_r l _ hl L (by rw [HL.out, pcsR_L])).mono ?_
     rintro e w3 ⟨v, rfl, ho, hb3⟩
     obtain ⟨A, n3, c, rfl⟩ := own_form' ho
     obtain rfl := own_len ho
     have H3 := Lib.hid (And.intro ho hb3)
     clear ho hb3))
  go_loopw [4] (fun i wr => ∃ k : Nat, k ≤ L.length ∧ i = .int .i64 k ∧ (L.take k).any (·.ex) = false ∧ Below w3.heap.size w3 wr) (fun i _ => L.length - (intOf i).toNat)
  case atStart => exact ⟨0, by omega, rfl, rfl, Below.refl _ _⟩
  case round =>
    obtain ⟨k, hk, rfl, hno, hb⟩ := hrel
    by_cases hlt : k < L.length
    · have u1 : (k : Int) < (L.length : Int) := by omega
      have u2 : (0 : Int) ≤ (k : Int) := by omega
      obtain ⟨x, hx⟩ : ∃ x, L[k]? = some x := ⟨_, List.getElem?_eq_getElem hlt⟩
      obtain ⟨g, o, rfl, _, y0, y1, y2⟩ := rd_pc (Rd.of_own (own_below H3.out.1 hb)) hx rfl
      have e1 : (L.take (k + 1)).any (·.ex) = x.ex := by
        obtain ⟨h1, h2⟩ := List.getElem?_eq_some_iff.1 hx
        rw [List.take_succ_eq_append_getElem h1, h2, List.any_append, hno]
        simp
      have HB := Lib.hid (And.intro hb (And.intro e1 (List.mem_of_getElem? hx)))
      clear hb hx e1 hno
      cases hxe : x.ex
      · have Hx := Lib.hid hxe
        rw [hxe] at y0
        clear hxe
        go_wp2_with fail
        exact ⟨⟨k + 1, by omega, by go_num, by rw [HB.out.2.1, Hx.out], HB.out.1⟩, by simp [intOf]; omega⟩
      · have Hx := Lib.hid hxe
        rw [hxe] at y0
        clear hxe
        go_wp2_with fail
        go_ret
        exact ⟨by rw [List.any_eq_true.2 ⟨x, HB.out.2.2, Hx.out⟩]; rfl, H3.out.2.trans (HB.out.1.mono H3.out.2.size)⟩
    · obtain rfl : k = L.length := by omega
      rw [List.take_of_length_le (Nat.le_refl _)] at hno
      have HB := Lib.hid (And.intro hb hno)
      clear hb hno
      go_wp2_with fail
      go_ret
      exact ⟨by rw [HB.out.2]; rfl, H3.out.2.trans (HB.out.1.mono H3.out.2.size)⟩
set_option maxHeartbeats 4000000 in
theorem pattern_r (l : List UInt8) (w : World) (hl : l.length ≤ 900) :
    Calls Try.prog 42 #[.string ⟨l.toArray⟩] w fun e w' => e = .returned (.string ⟨(patL (pcsL l)).toArray⟩) ∧ Below w.heap.size w w' := by
  obtain ⟨L, hL⟩ : ∃ L, L = pcsL l := ⟨_, rfl⟩
  have hpl : L.length ≤ 2 * l.length := by rw [hL]; exact pcsL_len l
  have hx9 : ∀ x ∈ L, x.tx.length ≤ 900 := fun x hx => Nat.le_trans (pcsL_tx l x (by rw [← hL]; exact hx)) hl
  have hT : ∀ k, (patL (L.take k)).length ≤ 4000000 := fun k => by
    have h1 := patL_len (L.take k) 900 (fun x hx => hx9 x (List.mem_of_mem_take hx))
    have h2 := Nat.mul_le_mul_right (2 * 900) (show (L.take k).length ≤ 1800 by simp; omega)
    omega
  rw [← hL]
  have HL := Lib.hid (And.intro hL (And.intro hx9 hT))
  clear hL hx9 hT
  go_enter Try.func42, Try.ntmps42
  go_wp2_with (
    (go_at_call 37
     refine (pieces_r l _ hl L (by rw [HL.out.1, pcsR_L])).mono ?_
     rintro e w3 ⟨v, rfl, ho, hb3⟩
     obtain ⟨A, n3, c, rfl⟩ := own_form' ho
     obtain rfl := own_len ho
     have H3 := Lib.hid (And.intro ho hb3)
     clear ho hb3))
  go_loopw [5, 4] (fun i s wr => ∃ k : Nat, k ≤ L.length ∧ i = .int .i64 k ∧ s = .string ⟨(patL (L.take k)).toArray⟩ ∧ Below w3.heap.size w3 wr) (fun i _ _ => L.length - (intOf i).toNat)
  case atStart => exact ⟨0, by omega, rfl, rfl, Below.refl _ _⟩
  case round =>
    obtain ⟨k, hk, rfl, rfl, hb⟩ := hrel
    by_cases hlt : k < L.length
    · have u1 : (k : Int) < (L.length : Int) := by omega
      have u2 : (0 : Int) ≤ (k : Int) := by omega
      obtain ⟨x, hx⟩ : ∃ x, L[k]? = some x := ⟨_, List.getElem?_eq_getElem hlt⟩
      obtain ⟨T, hT⟩ : ∃ T, T = patL (L.take k) := ⟨_, rfl⟩
      have hTl : T.length ≤ 4000000 := by rw [hT]; exact HL.out.2.2 k
      have hxl := HL.out.2.1 x (List.mem_of_getElem? hx)
      have e1 := patL_take hx
      rw [← hT] at e1 ⊢
      have HB := Lib.hid (And.intro hb (And.intro e1 hx))
      clear hb hx e1 hT
      obtain ⟨wo, rfl⟩ : ∃ wo : World, wo = wr := ⟨_, rfl⟩
      obtain ⟨g, o, rfl, _, y0, y1, y2⟩ := rd_pc (Rd.of_own (own_below H3.out.1 HB.out.1)) HB.out.2.2 rfl
      go_wp2_with fail
      go_loopw [6, 4] (fun i s wx => ∃ (j : Nat) (Z : List UInt8), j ≤ x.tx.length ∧ i = .int .i64 (j : Int) ∧ s = .string ⟨Z.toArray⟩ ∧ Z = T ++ (if x.qu = true then qbs (x.tx.take j) else x.tx.take j) ∧ wx = wo) (fun i _ _ => x.tx.length - (intOf i).toNat)
      case atStart => exact ⟨0, T, by omega, rfl, rfl, by cases x.qu <;> simp [qbs], rfl⟩
      case round =>
        obtain ⟨j, Z, hj, rfl, rfl, hZ, rfl⟩ := hrel
        by_cases hlj : j < x.tx.length
        · have v1 : (j : Int) < (x.tx.length : Int) := by omega
          have v2 : (0 : Int) ≤ (j : Int) := by omega
          have v3 : (j : Int) + 1 ≤ (x.tx.length : Int) := by omega
          have v4 : ((j : Int) + 1).toNat = j + 1 := by omega
          have v5 : (j : Int) ≤ (j : Int) + 1 := by omega
          have v6 : IntKind.i64.wrap ((j : Int) + 1) = (j : Int) + 1 := IntWalk.i64_in _ (by omega)
          obtain ⟨d, hd⟩ : ∃ d, x.tx[j]? = some d := ⟨_, List.getElem?_eq_getElem hlj⟩
          obtain ⟨hL1, hL2⟩ := List.getElem?_eq_some_iff.1 hd
          have htk : x.tx.take (j + 1) = x.tx.take j ++ [d] := by rw [List.take_succ_eq_append_getElem hL1, hL2]
          have hext : (ByteArray.mk x.tx.toArray).extract j (j + 1) = ⟨#[d]⟩ := by
            rw [ba_extract, htk, List.drop_append_of_le_length (by simp; omega), List.drop_of_length_le (by simp; omega)]
            rfl
          have hZl : Z.length ≤ 5000000 := by
            rw [hZ, List.length_append]
            have h1 := qbs_len (x.tx.take j)
            have h2 : (x.tx.take j).length ≤ x.tx.length := by simp; omega
            split <;> omega
          have hcl : ¬ 9223372036854775807 < Z.length + 1 := by omega
          cases hq : x.qu
          · rw [hq] at y1
            have hcat : ByteArray.mk Z.toArray ++ ByteArray.mk #[d] = ⟨(Z ++ [d]).toArray⟩ := ba_append Z [d]
            have HZ := Lib.hid (show Z ++ [d] = T ++ x.tx.take (j + 1) by rw [hZ, hq, htk]; simp)
            have HQ := Lib.hid hq
            clear hZ hL2 hd htk hq
            go_wp2_with fail
            exact ⟨⟨j + 1, Z ++ [d], by omega, by go_num, rfl, by rw [HZ.out] <;> first | rfl | simp [HQ.out], by first | rfl | trivial⟩, by simp [intOf]; omega⟩
          · rw [hq] at y1
            have hcat : ByteArray.mk Z.toArray ++ ByteArray.mk #[92] = ⟨(Z ++ [92]).toArray⟩ := ba_append Z [92]
            have hcat2 : ByteArray.mk (Z ++ [92]).toArray ++ ByteArray.mk #[d] = ⟨(Z ++ [92, d]).toArray⟩ := by have := ba_append (Z ++ [92]) [d]; simpa using this
            have hcl2 : ¬ 9223372036854775807 < Z.length + 1 + 1 := by omega
            have HZ := Lib.hid (show Z ++ [92, d] = T ++ qbs (x.tx.take (j + 1)) by rw [hZ, hq, htk, qbs_snoc]; simp)
            have HQ := Lib.hid hq
            clear hZ hL2 hd htk hq
            go_wp2_with fail
            exact ⟨⟨j + 1, Z ++ [92, d], by omega, by go_num, by first | rfl | simp, by rw [HZ.out] <;> first | rfl | simp [HQ.out], by first | rfl | trivial⟩, by simp [intOf]; omega⟩
        · obtain rfl : j = x.tx.length := by omega
          rw [List.take_of_length_le (Nat.le_refl _)] at hZ
          have HZ := Lib.hid (show Z = T ++ patP x from hZ)
          clear hZ
          go_wp2_with fail
          exact ⟨⟨k + 1, by omega, by go_num, by rw [HZ.out, HB.out.2.1], HB.out.1⟩, by simp [intOf]; omega⟩
    · obtain rfl : k = L.length := by omega
      rw [List.take_of_length_le (Nat.le_refl _)]
      have HB := Lib.hid hb
      clear hb
      go_wp2_with fail
      go_ret
      exact ⟨rfl, H3.out.2.trans (HB.out.mono H3.out.2.size)⟩
end Go.Proofs.Ytjkiapgboljabaa
