/- literal.Quotes: is something quoted? -/
import Derived.Test.YtjkiapgboljabaaLi8
namespace Go.Proofs.Ytjkiapgboljabaa
open Go.RowKit
set_option linter.unusedVariables false
set_option linter.unusedSimpArgs false
set_option maxRecDepth 100000
set_option maxHeartbeats 4000000 in
theorem quotes_m (l : List UInt8) (w : World) (hl : l.length ≤ 900) :
    Calls Try.prog 35 #[.string ⟨l.toArray⟩] w fun e w' => e = .returned (.bool ((partsL l).any quB)) ∧ Below w.heap.size w w' := by
  have hpl := parts_len l
  obtain ⟨L, hL⟩ : ∃ L, L = partsL l := ⟨_, rfl⟩
  rw [← hL] at hpl ⊢
  have HL := Lib.hid hL
  clear hL
  go_enter Try.func35, Try.ntmps35
  go_wp2_with (
    (go_at_call 18
     refine (of_m l _ (by omega)).mono ?_
     rintro e w2 ⟨v, rfl, ho, hb2⟩
     rw [← HL.out] at ho
     obtain ⟨A, n, c, rfl⟩ := own_form' ho
     obtain rfl := own_len ho
     have H := Lib.hid (And.intro ho hb2)
     clear ho hb2))
  go_loopw [8] (fun i wr => ∃ k : Nat, k ≤ L.length ∧ i = .int .i64 k ∧ (L.take k).any quB = false ∧ Below w2.heap.size w2 wr) (fun i _ => L.length - (intOf i).toNat)
  case atStart => exact ⟨0, by omega, rfl, rfl, Below.refl _ _⟩
  case round =>
    obtain ⟨k, hk, rfl, hno, hb⟩ := hrel
    by_cases hlt : k < L.length
    · have u1 : (k : Int) < (L.length : Int) := by omega
      have u2 : (0 : Int) ≤ (k : Int) := by omega
      obtain ⟨q, hq⟩ : ∃ q, L[k]? = some q := ⟨_, List.getElem?_eq_getElem hlt⟩
      have ho := own_below H.out.1 hb
      obtain ⟨g, rfl⟩ := own_at ho (by omega)
      obtain ⟨y0, y1, y2, y3, y4⟩ := pcells_at ho hq
      have e1 : (L.take (k + 1)).any quB = quB q := by
        obtain ⟨h1, h2⟩ := List.getElem?_eq_some_iff.1 hq
        rw [List.take_succ_eq_append_getElem h1, h2, List.any_append, hno]
        simp
      have HB := Lib.hid (And.intro hb (And.intro e1 (List.mem_of_getElem? hq)))
      clear hb hq e1 hno ho
      by_cases hup : q.up < 0
      · by_cases h13 : q.mode = 13
        · have t13 : (q.mode == 13) = true := by simpa using h13
          have HQ := Lib.hid (show quB q = true by unfold quB; simp [hup, h13])
          clear h13
          go_upto_region 4 with fail
          refine wp_region_lit ?_
          iterate 18
            with_reducible refine wpList_step (fun K hK => ?_)
            go_simp
            refine hK _ _ ?_
            clear hK K
          with_reducible refine wpList_nil ?_
          go_wp2_with fail
          go_ret
          exact ⟨by rw [List.any_eq_true.2 ⟨q, HB.out.2.2, HQ.out⟩]; rfl, H.out.2.trans (HB.out.1.mono H.out.2.size |>.alloc (by have := HB.out.1.size; have := H.out.2.size; omega) _)⟩
        · have t13 : (q.mode == 13) = false := by simpa using h13
          by_cases h4 : q.mode = 4
          · have t4 : (q.mode == 4) = true := by simpa using h4
            have HQ := Lib.hid (show quB q = true by unfold quB; simp [hup, h4])
            clear h4 h13
            go_upto_region 4 with fail
            refine wp_region_lit ?_
            iterate 18
              with_reducible refine wpList_step (fun K hK => ?_)
              go_simp
              refine hK _ _ ?_
              clear hK K
            with_reducible refine wpList_nil ?_
            go_wp2_with fail
            go_ret
            exact ⟨by rw [List.any_eq_true.2 ⟨q, HB.out.2.2, HQ.out⟩]; rfl, H.out.2.trans (HB.out.1.mono H.out.2.size |>.alloc (by have := HB.out.1.size; have := H.out.2.size; omega) _)⟩
          · have t4 : (q.mode == 4) = false := by simpa using h4
            by_cases h5 : q.mode = 5
            · have t5 : (q.mode == 5) = true := by simpa using h5
              have HQ := Lib.hid (show quB q = true by unfold quB; simp [hup, h5])
              clear h5 h4 h13
              go_upto_region 4 with fail
              refine wp_region_lit ?_
              iterate 18
                with_reducible refine wpList_step (fun K hK => ?_)
                go_simp
                refine hK _ _ ?_
                clear hK K
              with_reducible refine wpList_nil ?_
              go_wp2_with fail
              go_ret
              exact ⟨by rw [List.any_eq_true.2 ⟨q, HB.out.2.2, HQ.out⟩]; rfl, H.out.2.trans (HB.out.1.mono H.out.2.size |>.alloc (by have := HB.out.1.size; have := H.out.2.size; omega) _)⟩
            · have t5 : (q.mode == 5) = false := by simpa using h5
              have HQ := Lib.hid (show quB q = false by unfold quB; simp [hup, h5, h4, h13])
              clear h5 h4 h13
              go_upto_region 4 with fail
              refine wp_region_lit ?_
              iterate 18
                with_reducible refine wpList_step (fun K hK => ?_)
                go_simp
                refine hK _ _ ?_
                clear hK K
              with_reducible refine wpList_nil ?_
              go_wp2_with fail
              exact ⟨⟨k + 1, by omega, by go_num, by rw [HB.out.2.1, HQ.out], HB.out.1.alloc HB.out.1.size _⟩, by simp [intOf]; omega⟩
      · have tup : decide (q.up < 0) = false := decide_eq_false hup
        have HQ := Lib.hid (show quB q = false by unfold quB; simp [hup])
        clear hup
        go_upto_region 4 with fail
        refine wp_region_lit ?_
        iterate 18
          with_reducible refine wpList_step (fun K hK => ?_)
          go_simp
          refine hK _ _ ?_
          clear hK K
        with_reducible refine wpList_nil ?_
        go_wp2_with fail
        exact ⟨⟨k + 1, by omega, by go_num, by rw [HB.out.2.1, HQ.out], HB.out.1.alloc HB.out.1.size _⟩, by simp [intOf]; omega⟩
    · obtain rfl : k = L.length := by omega
      rw [List.take_of_length_le (Nat.le_refl _)] at hno
      have HB := Lib.hid (And.intro hb hno)
      clear hb hno
      go_wp2_with fail
      go_ret
      exact ⟨by rw [HB.out.2]; rfl, H.out.2.trans (HB.out.1.mono H.out.2.size)⟩
end Go.Proofs.Ytjkiapgboljabaa
