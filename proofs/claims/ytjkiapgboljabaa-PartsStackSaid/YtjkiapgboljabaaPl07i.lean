/- The frames at a place, but for dollars of no more than a parameter, are the parts around it. No program is in sight. -/
import Derived.Test.YtjkiapgboljabaaPl07g
namespace Go.Proofs.Ytjkiapgboljabaa
set_option linter.unusedVariables false
set_option linter.unusedSimpArgs false
set_option maxRecDepth 100000
theorem rise_ext : ∀ (A B : List Int), A.Pairwise (· < ·) → B.Pairwise (· < ·) → (∀ x, x ∈ A ↔ x ∈ B) → A = B
  | [], [], _, _, _ => rfl
  | [], b :: B, _, _, h => absurd ((h b).2 (List.mem_cons_self ..)) (by simp)
  | a :: A, [], _, _, h => absurd ((h a).1 (List.mem_cons_self ..)) (by simp)
  | a :: A, b :: B, hA, hB, h => by
    obtain ⟨a1, a2⟩ := List.pairwise_cons.1 hA
    obtain ⟨b1, b2⟩ := List.pairwise_cons.1 hB
    have e : a = b := by
      rcases List.mem_cons.1 ((h a).1 (List.mem_cons_self ..)) with e | e
      · exact e
      · have x1 := b1 a e
        rcases List.mem_cons.1 ((h b).2 (List.mem_cons_self ..)) with e2 | e2
        · exact e2.symm
        · have x2 := a1 b e2; omega
    subst e
    rw [rise_ext A B a2 b2 fun x => ?_]
    constructor
    · intro hx
      rcases List.mem_cons.1 ((h x).1 (List.mem_cons_of_mem _ hx)) with e | e
      · have := a1 x hx; omega
      · exact e
    · intro hx
      rcases List.mem_cons.1 ((h x).2 (List.mem_cons_of_mem _ hx)) with e | e
      · have := b1 x hx; omega
      · exact e
def arP (x : Int) (q : Prt) : Prop := q.fr < x ∧ (x < q.to ∨ q.op = true ∧ x = q.to)
/-- Is a place that of a dollar of no more than a parameter? -/
def dolF (L : List Prt) (p : Int) : Bool := L.any fun q => q.fr == p && q.mode == 12
theorem same_part {L : List Prt} (hr : (frs L).Pairwise (· < ·)) {q r : Prt} (hq : q ∈ L) (hr2 : r ∈ L) (e : q.fr = r.fr) : q = r := by
  obtain ⟨i, hi⟩ := List.mem_iff_getElem?.1 hq
  obtain ⟨j, hj⟩ := List.mem_iff_getElem?.1 hr2
  have h1 := rise_lt hr hi hj
  have h2 := rise_lt hr hj hi
  have : i = j := by
    have a1 : ¬ j < i := fun h => by have := h1.1 h; omega
    have a2 : ¬ i < j := fun h => by have := h2.1 h; omega
    omega
  subst this
  rw [hi] at hj
  exact Option.some.inj hj
theorem part_of {l : List UInt8} {f k : Nat} (hk : k ≤ l.length) (h : Alive l f k) : ∃ q ∈ partsL l, PI l q f := by
  have hlt := alive_lt h
  have ha := alive_down h (f + 1) (by omega) (by omega)
  have h1 := (canon_ci l (f + 1)).sub _ ha
  have h2 := (canon_pre l (f + 1) l.length (by omega)).subset h1
  rw [← frs_parts] at h2
  obtain ⟨q, hq, he⟩ := List.mem_map.1 h2
  obtain ⟨g, hg⟩ := parts_pi hq
  have : g = f := by have := hg.fr; omega
  subst this
  exact ⟨q, hq, hg⟩
theorem stack_law (l : List UInt8) (x : Nat) (hx : x ≤ l.length) (P : Prt → Bool) (hP : ∀ q, P q = true ↔ arP x q) :
    (((partsL l).filter P).filter (fun q => !(q.mode == 12))).map (·.fr) = (pls (FT l x)).filter (fun p => !dolF (partsL l) p) := by
  have hr := parts_rise l
  refine rise_ext _ _ ?_ ?_ ?_
  · have : List.Sublist ((((partsL l).filter P).filter (fun q => !(q.mode == 12))).map (·.fr)) (frs (partsL l)) := (List.filter_sublist.trans List.filter_sublist).map _
    exact hr.sublist this
  · exact (FT_rise l x).1.sublist List.filter_sublist
  · intro p
    constructor
    · intro h
      obtain ⟨q, hq, rfl⟩ := List.mem_map.1 h
      obtain ⟨hq, hm⟩ := List.mem_filter.1 hq
      obtain ⟨hq, hp⟩ := List.mem_filter.1 hq
      have hm' : q.mode ≠ 12 := by simpa using hm
      obtain ⟨h1, h2⟩ := (hP q).1 hp
      obtain ⟨f, hf⟩ := parts_pi hq
      rw [List.mem_filter]
      have hfr := hf.fr
      refine ⟨?_, ?_⟩
      · rcases hf.kind with ⟨_, hh, _⟩ | ⟨h12, _⟩
        · rw [hfr]
          rcases hh with ⟨_, _, h5⟩ | ⟨h4, e, h5, h6, h7, h8, h9⟩
          · exact h5 x (by omega) hx
          · refine h9 x (by omega) ?_
            rcases h2 with h2 | ⟨h2, _⟩
            · omega
            · rw [h4] at h2; cases h2
        · exact absurd h12 hm'
      · rw [Bool.not_eq_true', Bool.eq_false_iff]
        intro hd
        obtain ⟨r, hr2, hd⟩ := List.any_eq_true.1 hd
        simp only [Bool.and_eq_true, beq_iff_eq] at hd
        have := same_part hr hr2 hq hd.1
        subst this
        exact hm' hd.2
    · intro h
      obtain ⟨hp, hd⟩ := List.mem_filter.1 h
      obtain ⟨h0, h1⟩ := (FT_rise l x).2 p hp
      obtain ⟨f, rfl⟩ := Int.eq_ofNat_of_zero_le h0
      have ha : Alive l f x := hp
      obtain ⟨q, hq, hf⟩ := part_of hx ha
      have hm : q.mode ≠ 12 := by
        intro hm
        rw [Bool.not_eq_true', Bool.eq_false_iff] at hd
        exact hd (List.any_eq_true.2 ⟨q, hq, by simp [hf.fr, hm]⟩)
      refine List.mem_map.2 ⟨q, List.mem_filter.2 ⟨List.mem_filter.2 ⟨hq, (hP q).2 ?_⟩, by simpa using hm⟩, hf.fr⟩
      have hfr := hf.fr
      rcases hf.kind with ⟨_, hh, _⟩ | ⟨h12, _⟩
      · rcases hh with ⟨h4, h5, _⟩ | ⟨h4, e, h5, h6, h7, h8, h9⟩
        · refine ⟨by omega, ?_⟩
          by_cases e : x = l.length
          · exact .inr ⟨h4, by omega⟩
          · exact .inl (by omega)
        · refine ⟨by omega, .inl ?_⟩
          have : x < e := Nat.lt_of_not_le fun hh => h8 (alive_down ha e (by omega) hh)
          omega
      · exact absurd h12 hm
end Go.Proofs.Ytjkiapgboljabaa
