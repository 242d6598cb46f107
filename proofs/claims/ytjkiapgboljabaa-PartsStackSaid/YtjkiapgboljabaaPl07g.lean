/- The parts lie within each other or apart; the last one around a place is its own. No program is in sight. -/
import Derived.Test.YtjkiapgboljabaaPl07f
namespace Go.Proofs.Ytjkiapgboljabaa
set_option linter.unusedVariables false
set_option linter.unusedSimpArgs false
set_option maxRecDepth 100000
/-- Over a parameter only the dollar is gone. -/
theorem dol_x {l : List UInt8} {f : Nat} (h : ∃ d p r, (rAt l (f + 1)).1 = (76, (f : Int)) :: (d, p) :: r) (j : Nat) (h1 : 1 ≤ j) (h2 : j ≤ parL l (f + 1)) : pls (XT l (f + 1)) = (f : Int) :: pls (XT l (f + 1 + j)) := by
  obtain ⟨d, p, r, h⟩ := h
  have e := dol_still l (f + 1) _ _ _ _ h j h1 h2
  have e1 := pls_rat l (f + 1)
  have e2 := pls_rat l (f + 1 + j)
  rw [h] at e1
  rw [e] at e2
  have e3 : pls (XT l (f + 1)) ++ [0] = ((f : Int) :: pls (XT l (f + 1 + j))) ++ [0] := by
    rw [← e1, List.cons_append, ← e2]
    rfl
  exact (List.append_left_inj _).1 e3
theorem pi_not_dol {l : List UInt8} {q : Prt} {g f : Nat} (hk : PI l q g) (hgf : g < f) (hf : f < l.length) (ha : Alive l g (f + 1)) :
    (q.op = true ∧ q.to = l.length) ∨ (q.op = false ∧ ∃ e : Nat, f + 1 < e ∧ e ≤ l.length ∧ q.to = e ∧ ¬ Alive l g e) := by
  rcases hk.kind with ⟨_, h, _⟩ | ⟨_, _, _, _, h⟩
  · rcases h with ⟨h1, h2, _⟩ | ⟨h1, e, h2, h3, h4, h5, h6⟩
    · exact .inl ⟨h1, h2⟩
    · refine .inr ⟨h1, e, ?_, h3, h4, h5⟩
      exact Nat.lt_of_not_le fun hh => h5 (alive_down ha e (by omega) hh)
  · exact absurd (alive_down ha (g + 2) (by omega) (by omega)) (h (by omega))
theorem inner_iff {l : List UInt8} {q qk : Prt} {f g : Nat} (hq : PI l q f) (hk : PI l qk g) (hgf : g < f) : (f : Int) < qk.to ↔ Alive l g (f + 1) := by
  have hfl := hq.lt
  constructor
  · intro h
    rcases hk.kind with ⟨_, hh, hc⟩ | ⟨_, _, ht, hd, _⟩
    · rcases hh with ⟨h1, h2, h3⟩ | ⟨h1, e, h2, h3, h4, h5, h6⟩
      · exact h3 (f + 1) (by omega) (by omega)
      · rw [h4] at h
        by_cases he : f + 1 < e
        · exact h6 _ (by omega) he
        · have e2 : e = f + 1 := by omega
          subst e2
          rcases push_keeps hq.al (h6 f hgf (by omega)) with ha | ⟨c, r, hr, hc76⟩
          · exact ha
          · have hm : (c, (g : Int)) ∈ FT l f := by
              have h8 : ((c, (g : Int)) : UInt8 × Int) ∈ (rAt l f).1 := by rw [hr]; exact List.mem_cons_self ..
              rw [rAt_split] at h8
              rcases List.mem_append.1 h8 with h8 | h8
              · simpa [FT] using h8
              · simp at h8
                rw [h8.1] at hc76
                exact absurd hc76 (by decide)
            obtain ⟨hfe, _⟩ := dol_top hm hc76
            subst hfe
            exact hc c hm hc76
    · exfalso
      rw [ht] at h
      have e := dol_x hd (f - g) (by omega) (by omega)
      rw [show g + 1 + (f - g) = f + 1 by omega] at e
      have h1 := (XT_fall l (g + 1)).2 f (by rw [e]; exact List.mem_cons_of_mem _ (alive_x.1 hq.al))
      omega
  · intro ha
    rcases pi_not_dol hk hgf hfl ha with ⟨_, h⟩ | ⟨_, e, h1, h2, h3, _⟩
    · rw [h]; omega
    · rw [h3]; omega
theorem pi_to {l : List UInt8} {q : Prt} {f : Nat} (hq : PI l q f) : (f : Int) < q.to ∧ q.to ≤ (l.length : Int) := by
  have hfl := hq.lt
  rcases hq.kind with ⟨_, h, _⟩ | ⟨_, _, h, _, _⟩
  · rcases h with ⟨_, h, _⟩ | ⟨_, e, h1, h2, h3, _⟩
    · rw [h]; omega
    · rw [h3]; omega
  · have := parL_le l (f + 1)
    rw [h]; omega
theorem inner_le {l : List UInt8} {q qk : Prt} {f g : Nat} (hq : PI l q f) (hk : PI l qk g) (hgf : g < f) (ha : Alive l g (f + 1)) : q.to ≤ qk.to := by
  have hfl := hq.lt
  rcases pi_not_dol hk hgf hfl ha with ⟨_, h⟩ | ⟨_, e, h1, h2, h3, h4⟩
  · rw [h]; exact (pi_to hq).2
  · rw [h3]
    rcases hq.kind with ⟨_, h, _⟩ | ⟨_, _, ht, hd, _⟩
    · rcases h with ⟨_, h5, h6⟩ | ⟨_, e', h5, h6, h7, h8, h9⟩
      · exact absurd (below_alive hq.al ha (h6 e (by omega) h2)) h4
      · rw [h7]
        by_cases hc : e' ≤ e
        · omega
        · exact absurd (below_alive hq.al ha (h9 e (by omega) (by omega))) h4
    · rw [ht]
      by_cases hc : f + 1 + parL l (f + 1) ≤ e
      · omega
      · have e2 := dol_x hd (e - (f + 1)) (by omega) (by omega)
        rw [show f + 1 + (e - (f + 1)) = e by omega] at e2
        have h5 := alive_x.1 ha
        rw [e2] at h5
        rcases List.mem_cons.1 h5 with h5 | h5
        · omega
        · exact absurd (alive_x.2 h5) h4
/-- The last of the first k parts that goes beyond a place. -/
def upF (L : List Prt) (x : Int) : Nat → Int
  | 0 => -1
  | k + 1 => if x < (L.getD k dP).to then (k : Int) else upF L x k
theorem upF_none (L : List Prt) (x : Int) : ∀ i, (∀ k, k < i → ¬ x < (L.getD k dP).to) → upF L x i = -1
  | 0, _ => rfl
  | i + 1, h => by
    unfold upF
    rw [if_neg (h i (by omega))]
    exact upF_none L x i (fun k hk => h k (by omega))
theorem upF_at (L : List Prt) (x : Int) (u : Nat) (hu : x < (L.getD u dP).to) : ∀ i, u < i → (∀ k, u < k → k < i → ¬ x < (L.getD k dP).to) → upF L x i = u
  | 0, h, _ => by omega
  | i + 1, h, hh => by
    unfold upF
    by_cases e : u = i
    · subst e; rw [if_pos hu]
    · rw [if_neg (hh i (by omega) (by omega))]
      exact upF_at L x u hu i (by omega) (fun k h1 h2 => hh k h1 (by omega))
theorem rise_lt {L : List Prt} (hr : (frs L).Pairwise (· < ·)) {i k : Nat} {p q : Prt} (hi : L[i]? = some p) (hk : L[k]? = some q) : k < i ↔ q.fr < p.fr := by
  obtain ⟨h1, h2⟩ := List.getElem?_eq_some_iff.1 hi
  obtain ⟨h3, h4⟩ := List.getElem?_eq_some_iff.1 hk
  have hp := List.pairwise_iff_getElem.1 hr
  have g1 : (frs L)[i]'(by simpa using h1) = p.fr := by simp [frs, h2]
  have g3 : (frs L)[k]'(by simpa using h3) = q.fr := by simp [frs, h4]
  constructor
  · intro h
    have := hp k i (by simpa using h3) (by simpa using h1) h
    rwa [g1, g3] at this
  · intro h
    refine Nat.lt_of_not_le fun hh => ?_
    rcases Nat.lt_or_eq_of_le hh with h5 | h5
    · have := hp i k (by simpa using h1) (by simpa using h3) h5
      rw [g1, g3] at this
      omega
    · subst h5
      rw [hi] at hk
      injection hk with hk
      subst hk
      omega
theorem getD_some {L : List Prt} {k : Nat} {q : Prt} (h : L[k]? = some q) : L.getD k dP = q := by rw [List.getD_eq_getElem?_getD, h]; rfl
theorem parts_at {l : List UInt8} {i : Nat} {q : Prt} (h : (partsL l)[i]? = some q) : ∃ f, PI l q f := parts_pi (List.mem_of_getElem? h)
structure Nest (n : Nat) (L : List Prt) (i : Nat) (q : Prt) : Prop where
  f0 : 0 ≤ q.fr
  ft : q.fr < q.to
  tn : q.to ≤ (n : Int)
  rise : ∀ k p, k < i → L[k]? = some p → p.fr < q.fr
  nest : ∀ k p, k < i → L[k]? = some p → q.fr < p.to → q.to ≤ p.to
  up : upF L q.fr i = q.up
theorem nest_law (l : List UInt8) (i : Nat) (q : Prt) (hi : (partsL l)[i]? = some q) : Nest l.length (partsL l) i q := by
  obtain ⟨f, hq⟩ := parts_at hi
  have hr := parts_rise l
  have hto := pi_to hq
  have hlt : ∀ k p, k < i → (partsL l)[k]? = some p → p.fr < q.fr := fun k p hk hp => (rise_lt hr hi hp).1 hk
  have hkey : ∀ k p, k < i → (partsL l)[k]? = some p → ∃ g, PI l p g ∧ g < f ∧ (q.fr < p.to ↔ Alive l g (f + 1)) := by
    intro k p hk hp
    obtain ⟨g, hg⟩ := parts_at hp
    have h1 := hlt k p hk hp
    rw [hg.fr, hq.fr] at h1
    exact ⟨g, hg, by omega, by rw [hq.fr]; exact inner_iff hq hg (by omega)⟩
  refine ⟨by rw [hq.fr]; omega, by rw [hq.fr]; exact hto.1, hto.2, hlt, ?_, ?_⟩
  · intro k p hk hp h
    obtain ⟨g, hg, hgf, hiff⟩ := hkey k p hk hp
    exact inner_le hq hg hgf (hiff.1 h)
  · have hil := (List.getElem?_eq_some_iff.1 hi).1
    obtain ⟨A, c, hF, hs⟩ := new_at hq.al
    have hmem : ∀ g : Nat, g ≠ f → Alive l g (f + 1) → (g : Int) ∈ pls A := by
      intro g hgf ha
      unfold Alive at ha
      rw [hF, pls, List.map_append] at ha
      rcases List.mem_append.1 ha with ha | ha
      · exact ha
      · simp at ha; omega
    rw [hq.up]
    unfold upI
    rw [hF, List.dropLast_concat]
    rcases List.eq_nil_or_concat A with h | ⟨G, y, h⟩
    · subst h
      refine upF_none _ _ _ (fun k hk => ?_)
      have hk' : k < (partsL l).length := by omega
      obtain ⟨g, hg, hgf, hiff⟩ := hkey k _ hk (List.getElem?_eq_getElem hk')
      rw [getD_some (List.getElem?_eq_getElem hk'), hiff]
      intro ha
      have := hmem g (by omega) ha
      cases this
    · have h' : A = G ++ [y] := by simpa using h
      have hyA : y.2 ∈ pls A := by rw [h']; simp [pls]
      have hyF := hs _ hyA
      have hyC := (canon_ci l f).sub _ hyF
      have hb := (canon_ci l f).bnd _ hyC
      rw [h']
      simp only [List.getLast?_append, List.getLast?_singleton, Option.some_or]
      have hu := idx_lt hyC
      have hfu : (frs (canon l f))[idxP (canon l f) y.2]? = some y.2 := by
        have h1 := idx_fr hyC
        rw [List.getD_eq_getElem?_getD, List.getElem?_eq_getElem hu] at h1
        rw [List.getElem?_map, List.getElem?_eq_getElem hu]
        simpa using h1
      have hpre := canon_pre l f l.length (Nat.le_of_lt hq.lt)
      rw [← frs_parts] at hpre
      obtain ⟨T, hT⟩ := hpre
      have hfu2 : (frs (partsL l))[idxP (canon l f) y.2]? = some y.2 := by
        rw [← hT, List.getElem?_append_left (by simpa [frs] using hu)]
        exact hfu
      generalize idxP (canon l f) y.2 = u at *
      rw [List.getElem?_map] at hfu2
      cases hpu : (partsL l)[u]? with
      | none => rw [hpu] at hfu2; cases hfu2
      | some pu =>
        rw [hpu] at hfu2
        simp at hfu2
        have hui : u < i := (rise_lt hr hi hpu).2 (by rw [hfu2, hq.fr]; omega)
        obtain ⟨g, hg, hgf, hiff⟩ := hkey u pu hui hpu
        have hgy : (g : Int) = y.2 := by rw [← hg.fr, hfu2]
        refine upF_at _ _ u ?_ i hui ?_
        · rw [getD_some hpu, hiff]
          unfold Alive
          rw [hgy, hF, pls, List.map_append]
          exact List.mem_append_left _ hyA
        · intro k h1 h2
          have hk' : k < (partsL l).length := by omega
          obtain ⟨g', hg', hgf', hiff'⟩ := hkey k _ h2 (List.getElem?_eq_getElem hk')
          rw [getD_some (List.getElem?_eq_getElem hk'), hiff']
          intro ha
          have h3 := (rise_lt hr (List.getElem?_eq_getElem hk') hpu).1 h1
          rw [hg'.fr, hfu2] at h3
          have h4 := hmem g' (by omega) ha
          have h5 := (FT_rise l (f + 1)).1
          rw [hF, h'] at h5
          rw [h', pls, List.map_append] at h4
          rcases List.mem_append.1 h4 with h4 | h4
          · simp only [pls, List.map_append, List.append_assoc] at h5
            have := (List.pairwise_append.1 h5).2.2 _ h4 y.2 (by simp)
            omega
          · simp at h4; omega
end Go.Proofs.Ytjkiapgboljabaa
