/- Each part by the frames that make it: from where to where it goes. No program is in sight. -/
import Derived.Test.YtffngggdelmkpaaGreatDoorPl6
import Derived.Test.YtffngggdelmkpaaGreatDoorCls
namespace Go.Proofs.YtffngggdelmkpaaGreatDoor
set_option linter.unusedVariables false
set_option linter.unusedSimpArgs false
set_option maxRecDepth 100000
def Alive (l : List UInt8) (f k : Nat) : Prop := (f : Int) ∈ pls (FT l k)
theorem alive_x {l : List UInt8} {f k : Nat} : Alive l f k ↔ (f : Int) ∈ pls (XT l k) := by simp [Alive, FT, pls]
theorem alive_lt {l : List UInt8} {f k : Nat} (h : Alive l f k) : f < k := by have := (FT_rise l k).2 _ h; omega
theorem alive_back {l : List UInt8} {f k : Nat} (h : Alive l f (k + 1)) (hk : k ≠ f) : Alive l f k := by
  obtain ⟨j, A, B, hF, hj, hA, hB⟩ := FT_split l k
  unfold Alive at h
  rw [hF, pls, List.map_append] at h
  rcases List.mem_append.1 h with h | h
  · have h' : (f : Int) ∈ pls A := h
    rw [hA] at h'
    exact List.mem_of_mem_take h'
  · rcases hB with rfl | ⟨c, rfl⟩
    · cases h
    · simp at h; omega
theorem alive_down {l : List UInt8} {f k : Nat} (h : Alive l f k) : ∀ j, f < j → j ≤ k → Alive l f j := by
  induction k with
  | zero => intro j h1 h2; have := alive_lt h; omega
  | succ k ih =>
    intro j h1 h2
    by_cases e : j = k + 1
    · subst e; exact h
    · exact ih (alive_back h (by omega)) j h1 (by omega)
theorem new_at {l : List UInt8} {f : Nat} (h : Alive l f (f + 1)) : ∃ A c, FT l (f + 1) = A ++ [(c, (f : Int))] ∧ ∀ p ∈ pls A, p ∈ pls (FT l f) := by
  obtain ⟨j, A, B, hF, hj, hA, hB⟩ := FT_split l f
  have hs : ∀ p ∈ pls A, p ∈ pls (FT l f) := fun p hp => by rw [hA] at hp; exact List.mem_of_mem_take hp
  rcases hB with rfl | ⟨c, rfl⟩
  · unfold Alive at h
    rw [hF, List.append_nil] at h
    have := (FT_rise l f).2 _ (hs _ h)
    omega
  · exact ⟨A, c, hF, hs⟩
theorem take_const (l : List UInt8) (f n : Nat) (h0 : (pls (FT l (f + 1)))[n]? = some (f : Int)) : ∀ k, f + 1 ≤ k → Alive l f k → (pls (FT l k)).take (n + 1) = (pls (FT l (f + 1))).take (n + 1) := by
  intro k hk
  induction k with
  | zero => omega
  | succ k ih =>
    intro hm
    by_cases e : k = f
    · subst e; rfl
    · have hb := alive_back hm e
      have ih' := ih (by omega) hb
      have hx := idx_const l f n h0 k (by omega) hb
      obtain ⟨j, A, B, hF, hj, hA, hB⟩ := FT_split l k
      have hmA : (f : Int) ∈ pls A := by
        unfold Alive at hm
        rw [hF, pls, List.map_append] at hm
        rcases List.mem_append.1 hm with h | h
        · exact h
        · rcases hB with rfl | ⟨c, rfl⟩
          · cases h
          · simp at h; omega
      rw [hA] at hmA
      obtain ⟨i, hi, hie⟩ := List.mem_take_iff_getElem.1 hmA
      have hij : i = n := nodup_idx (FT_nodup l k) (List.getElem?_eq_some_iff.2 ⟨by omega, hie⟩) hx
      rw [← ih', hF, pls, List.map_append]
      rw [List.take_append_of_le_length (by
        have := congrArg List.length hA
        simp [pls] at this ⊢
        simp [pls] at hi
        omega)]
      rw [show A.map (·.2) = pls A from rfl, hA, List.take_take, Nat.min_eq_left (by omega)]
/-- What lies below a frame stays as long as it does. -/
theorem below_alive {l : List UInt8} {f g k : Nat} (hp : Alive l f (f + 1)) (hg : Alive l g (f + 1)) (hk : Alive l f k) : Alive l g k := by
  obtain ⟨A, c, hF, hs⟩ := new_at hp
  have h0 : (pls (FT l (f + 1)))[A.length]? = some (f : Int) := by rw [hF]; simp [pls]
  have ht := take_const l f A.length h0 k (alive_lt hk) hk
  rw [List.take_of_length_le (l := pls (FT l (f + 1))) (by rw [hF]; simp [pls])] at ht
  unfold Alive at hg ⊢
  rw [← ht] at hg
  exact List.mem_of_mem_take hg
theorem pls_rat (l : List UInt8) (k : Nat) : pls (rAt l k).1 = pls (XT l k) ++ [0] := by rw [rAt_split]; simp [pls]
/-- A byte that opens a frame takes a dollar away at most. -/
theorem push_keeps {l : List UInt8} {f g : Nat} (h : Alive l f (f + 1)) (hg : Alive l g f) : Alive l g (f + 1) ∨ ∃ c r, (rAt l f).1 = (c, (g : Int)) :: r ∧ c.toNat = 76 := by
  obtain ⟨A, c, hF, hs⟩ := new_at h
  have hX : pls (XT l (f + 1)) = (f : Int) :: pls A.reverse := by
    have e : XT l (f + 1) = (FT l (f + 1)).reverse := by simp [FT]
    rw [e, hF]; simp [pls]
  have hgf := alive_lt hg
  have hnot : (f : Int) ∉ pls (rAt l f).1 := by
    rw [pls_rat]
    intro hh
    rcases List.mem_append.1 hh with hh | hh
    · have := alive_lt (alive_x.2 hh); omega
    · simp at hh; omega
  have hpl : pls (rStep (rAt l f).1 (rAt l f).2 (l.getD f 0) (f : Int)).1 = (f : Int) :: (pls A.reverse ++ [0]) := by
    show pls (rAt l (f + 1)).1 = _
    rw [pls_rat, hX]; rfl
  have hgx := alive_x.1 hg
  have hgA : (g : Int) ∈ pls A.reverse → Alive l g (f + 1) := fun hh => alive_x.2 (by rw [hX]; exact List.mem_cons_of_mem _ hh)
  rcases rStep_p3 (rAt l f).1 (rAt l f).2 (l.getD f 0) (f : Int) with h3 | ⟨c', p, r, he, hc, h3⟩
  · have e := h3.push hpl hnot
    rw [pls_rat] at e
    rw [← (List.append_left_inj _).1 e] at hgx
    exact .inl (hgA hgx)
  · have e := h3.push hpl (fun hh => hnot (by rw [he]; exact List.mem_cons_of_mem _ hh))
    have e2 : pls (XT l f) ++ [0] = p :: pls A.reverse ++ [0] := by
      rw [← pls_rat, he, List.cons_append, e]
      rfl
    rw [(List.append_left_inj _).1 e2] at hgx
    rcases List.mem_cons.1 hgx with hh | hh
    · exact .inr ⟨c', r, by rw [he, hh], hc⟩
    · exact .inl (hgA hh)
theorem cnt_76 (c : UInt8) : cnt c = 12 ↔ c.toNat = 76 := by
  have := byte_all (fun c => decide (cnt c = 12) == decide (c.toNat = 76)) (by decide +kernel) c
  simpa using this
/-- A dollar's frame is the last one, and but one byte old. -/
theorem dol_top {l : List UInt8} {f k : Nat} {c : UInt8} (h : (c, (f : Int)) ∈ FT l k) (hc : c.toNat = 76) : k = f + 1 ∧ ∃ d p r, (rAt l k).1 = (76, (f : Int)) :: (d, p) :: r := by
  have hm : (c, (f : Int)) ∈ (rAt l k).1 := by rw [rAt_split]; exact List.mem_append_left _ (by simpa [FT] using h)
  rcases rAt_d l k with h1 | ⟨d, q, r, he, h1, _, _⟩
  · exact absurd hc (h1 _ hm)
  · rw [he] at hm
    rcases List.mem_cons.1 hm with hm | hm
    · simp only [Prod.mk.injEq] at hm
      exact ⟨by omega, d, q, r, by rw [he, hm.2]⟩
    · exact absurd hc (h1 _ hm)
theorem scan_spec (F : Nat → Stk) (fr : Int) (n : Nat) : ∀ (m k : Nat) (q : Prt), q.op = true →
    (scanR F fr n m k q).fr = q.fr ∧ (scanR F fr n m k q).up = q.up ∧
    (((scanR F fr n m k q).op = true ∧ (scanR F fr n m k q).to = q.to ∧ (∀ j, k ≤ j → j < k + m → fr ∈ pls (F j))) ∨ ((scanR F fr n m k q).op = false ∧ ∃ e : Nat, k ≤ e ∧ e < k + m ∧ (scanR F fr n m k q).to = e ∧ fr ∉ pls (F e) ∧ ∀ j, k ≤ j → j < e → fr ∈ pls (F j))) ∧
    (((scanR F fr n m k q).mode = q.mode ∧ (fr ∉ pls (F k) ∨ m = 0)) ∨ ∃ e, k ≤ e ∧ e < k + m ∧ fr ∈ pls (F e) ∧ (scanR F fr n m k q).mode = cnt ((F e).getD (n - 1) (0, 0)).1)
  | 0, k, q, ho => ⟨rfl, rfl, .inl ⟨ho, rfl, fun j _ _ => by omega⟩, .inl ⟨rfl, .inr rfl⟩⟩
  | m + 1, k, q, ho => by
    unfold scanR
    by_cases hm : fr ∈ pls (F k)
    · rw [if_neg (fun h => atR_zero.1 h hm)]
      obtain ⟨h1, h2, h3, h4⟩ := scan_spec F fr n m (k + 1) { q with mode := cnt ((F k).getD (n - 1) (0, 0)).1 } ho
      refine ⟨h1, h2, ?_, .inr ?_⟩
      · rcases h3 with ⟨h3, h5, h6⟩ | ⟨h3, e, h5, h6, h7, h8, h9⟩
        · refine .inl ⟨h3, h5, fun j hj hj2 => ?_⟩
          by_cases e : j = k
          · subst e; exact hm
          · exact h6 j (by omega) (by omega)
        · refine .inr ⟨h3, e, by omega, by omega, h7, h8, fun j hj hj2 => ?_⟩
          by_cases e : j = k
          · subst e; exact hm
          · exact h9 j (by omega) (by omega)
      · rcases h4 with ⟨h4, _⟩ | ⟨e, h5, h6, h7, h8⟩
        · exact ⟨k, Nat.le_refl _, by omega, hm, h4⟩
        · exact ⟨e, by omega, by omega, h7, h8⟩
    · rw [if_pos (atR_zero.2 hm)]
      exact ⟨rfl, rfl, .inr ⟨rfl, k, Nat.le_refl _, by omega, rfl, hm, fun j _ _ => by omega⟩, .inl ⟨rfl, .inl hm⟩⟩
structure PI (l : List UInt8) (q : Prt) (f : Nat) : Prop where
  fr : q.fr = f
  lt : f < l.length
  al : Alive l f (f + 1)
  up : q.up = upI (FT l (f + 1)) (canon l f)
  kind : (q.mode ≠ 12 ∧ ((q.op = true ∧ q.to = l.length ∧ ∀ j, f < j → j ≤ l.length → Alive l f j) ∨ (q.op = false ∧ ∃ e : Nat, f + 1 < e ∧ e ≤ l.length ∧ q.to = e ∧ ¬ Alive l f e ∧ ∀ j, f < j → j < e → Alive l f j)) ∧ ∀ c : UInt8, (c, (f : Int)) ∈ FT l (f + 1) → c.toNat = 76 → Alive l f (f + 2)) ∨
    (q.mode = 12 ∧ q.op = false ∧ q.to = f + 1 + (parL l (f + 1) : Int) ∧ (∃ d p r, (rAt l (f + 1)).1 = (76, (f : Int)) :: (d, p) :: r) ∧ (f + 2 ≤ l.length → ¬ Alive l f (f + 2)))
theorem pi_of {l : List UInt8} {f : Nat} (hf : f < l.length) {q : Prt} (hq : q ∈ newP (FT l (f + 1)) f (canon l f)) : PI l (finP l (evol l (l.length - (f + 1)) (f + 2) q)) f := by
  have hal : Alive l f (f + 1) := by
    refine Classical.byContradiction fun h => ?_
    rw [newP_none (fun p hp e => h (by unfold Alive; rw [← e]; exact hp))] at hq
    cases hq
  obtain ⟨A, c, hF, hs⟩ := new_at hal
  rw [newP_of hF] at hq
  simp only [List.mem_singleton] at hq
  have h0 : (pls (FT l (f + 1)))[A.length]? = some (f : Int) := by rw [hF]; simp [pls]
  have hop : q.op = true := by rw [hq]
  have hfr : q.fr = f := by rw [hq]
  have hup : q.up = upI (FT l (f + 1)) (canon l f) := by rw [hq]
  have hmd : q.mode = cnt c := by rw [hq]
  have hse := scan_evol l f (A.length + 1) (fun k hk hm => idx_const l f A.length h0 k hk hm) (l.length - (f + 1)) (f + 2) q hop hfr (by omega)
  obtain ⟨s1, s2, s3, s4⟩ := scan_spec (FT l) f (A.length + 1) (l.length - (f + 1)) (f + 2) { q with to := l.length } hop
  unfold finP
  rw [← hse]
  generalize scanR (FT l) f (A.length + 1) (l.length - (f + 1)) (f + 2) { q with to := l.length } = r at *
  have r1 : r.fr = f := s1.trans hfr
  have r2 : r.up = upI (FT l (f + 1)) (canon l f) := s2.trans hup
  by_cases hm : r.mode = 12
  · have e : fin1 l r = { r with to := r.fr + 1 + (parL l (r.fr + 1).toNat : Int), op := false } := by unfold fin1; rw [if_pos hm]
    rw [e]
    have hx : cnt c = 12 ∧ ((f : Int) ∉ pls (FT l (f + 2)) ∨ l.length - (f + 1) = 0) := by
      rcases s4 with ⟨s4, s5⟩ | ⟨e, h1, h2, h3, h4⟩
      · rw [hm] at s4
        exact ⟨by rw [← hmd]; exact s4.symm, s5⟩
      · exfalso
        rw [hm] at h4
        have hc := (cnt_76 _).1 h4.symm
        have h5 := idx_const l f A.length h0 e (by omega) h3
        rw [Nat.add_sub_cancel] at hc
        rw [List.getElem?_map] at h5
        cases hy : (FT l e)[A.length]? with
        | none => rw [hy] at h5; cases h5
        | some y =>
          rw [hy] at h5
          obtain ⟨c', p'⟩ := y
          simp at h5
          subst h5
          rw [List.getD_eq_getElem?_getD, hy] at hc
          have := (dol_top (List.mem_of_getElem? hy) hc).1
          omega
    have hc := (cnt_76 c).1 hx.1
    refine ⟨r1, hf, hal, r2, .inr ⟨hm, rfl, ?_, (dol_top (c := c) (by rw [hF]; simp) hc).2, ?_⟩⟩
    · show r.fr + 1 + (parL l (r.fr + 1).toNat : Int) = _
      rw [r1]
      rfl
    · intro h2
      rcases hx.2 with h | h
      · exact h
      · omega
  · have e : fin1 l r = r := by unfold fin1; rw [if_neg hm]
    rw [e]
    refine ⟨r1, hf, hal, r2, .inl ⟨hm, ?_, ?_⟩⟩
    rotate_left
    · intro c' hc' h76
      rcases s4 with ⟨s4, s5⟩ | ⟨e, h1, h2, h3, h4⟩
      · exfalso
        obtain ⟨i, hi⟩ := List.mem_iff_getElem?.1 hc'
        have hi2 : (pls (FT l (f + 1)))[i]? = some (f : Int) := by rw [List.getElem?_map, hi]; rfl
        have := nodup_idx (FT_nodup l (f + 1)) hi2 h0
        subst this
        rw [hF] at hi
        simp at hi
        subst hi
        exact hm (by rw [s4]; show q.mode = 12; rw [hmd]; exact (cnt_76 _).2 h76)
      · exact alive_down h3 (f + 2) (by omega) (by omega)
    rcases s3 with ⟨h1, h2, h3⟩ | ⟨h1, e, h2, h3, h4, h5, h6⟩
    · refine .inl ⟨h1, h2, fun j hj hj2 => ?_⟩
      by_cases e : j = f + 1
      · subst e; exact hal
      · exact h3 j (by omega) (by omega)
    · refine .inr ⟨h1, e, by omega, by omega, h4, h5, fun j hj hj2 => ?_⟩
      by_cases e : j = f + 1
      · subst e; exact hal
      · exact h6 j (by omega) (by omega)
theorem parts_flat (l : List UInt8) : partsL l = (List.range l.length).flatMap (fun f => (newP (FT l (f + 1)) f (canon l f)).map fun q => finP l (evol l (l.length - (f + 1)) (f + 2) q)) := by
  rw [← outR_parts]; exact (outR_canon l l.length (Nat.le_refl _)).1
theorem parts_pi {l : List UInt8} {q : Prt} (h : q ∈ partsL l) : ∃ f, PI l q f := by
  rw [parts_flat] at h
  obtain ⟨f, hf, hq⟩ := List.mem_flatMap.1 h
  obtain ⟨q0, h0, rfl⟩ := List.mem_map.1 hq
  exact ⟨f, pi_of (List.mem_range.1 hf) h0⟩
theorem frs_parts (l : List UInt8) : frs (partsL l) = frs (canon l l.length) := by
  unfold partsL
  simp only [frs, List.map_map]
  exact List.map_congr_left fun q _ => finP_fr l q
theorem parts_rise (l : List UInt8) : (frs (partsL l)).Pairwise (· < ·) := by rw [frs_parts]; exact (canon_ci l l.length).rise
theorem canon_pre (l : List UInt8) (k : Nat) : ∀ n, k ≤ n → frs (canon l k) <+: frs (canon l n) := by
  intro n hn
  induction n with
  | zero => obtain rfl : k = 0 := by omega
            exact List.prefix_refl _
  | succ n ih =>
    by_cases e : k = n + 1
    · subst e; exact List.prefix_refl _
    · rw [frs_canon]
      exact (ih (by omega)).trans (List.prefix_append _ _)
end Go.Proofs.YtffngggdelmkpaaGreatDoor
/- The parts lie within each other or apart; the last one around a place is its own. No program is in sight. -/
namespace Go.Proofs.YtffngggdelmkpaaGreatDoor
set_option linter.unusedVariables false
set_option linter.unusedSimpArgs false
set_option maxRecDepth 100000
/-- Over a parameter only the dollar is gone. -/
theorem dol_x {l : List UInt8} {f : Nat} (h : ∃ d p r, (rAt l (f + 1)).1 = (76, (f : Int)) :: (d, p) :: r) (j : Nat) (h1 : 1 ≤ j) (h2 : j ≤ parL l (f + 1)) : pls (XT l (f + 1)) = (f : Int) :: pls (XT l (f + 1 + j)) := by
  obtain ⟨d, p, r, h⟩ := h
  have e := dol_still l (f + 1) _ _ _ _ h j h1 h2
  have e1 := pls_rat l (f + 1)
  have e2 := pls_rat l (f + 1 + j)
  rw [h] at e1
  rw [e] at e2
  have e3 : pls (XT l (f + 1)) ++ [0] = ((f : Int) :: pls (XT l (f + 1 + j))) ++ [0] := by
    rw [← e1, List.cons_append, ← e2]
    rfl
  exact (List.append_left_inj _).1 e3
theorem pi_not_dol {l : List UInt8} {q : Prt} {g f : Nat} (hk : PI l q g) (hgf : g < f) (hf : f < l.length) (ha : Alive l g (f + 1)) :
    (q.op = true ∧ q.to = l.length) ∨ (q.op = false ∧ ∃ e : Nat, f + 1 < e ∧ e ≤ l.length ∧ q.to = e ∧ ¬ Alive l g e) := by
  rcases hk.kind with ⟨_, h, _⟩ | ⟨_, _, _, _, h⟩
  · rcases h with ⟨h1, h2, _⟩ | ⟨h1, e, h2, h3, h4, h5, h6⟩
    · exact .inl ⟨h1, h2⟩
    · refine .inr ⟨h1, e, ?_, h3, h4, h5⟩
      exact Nat.lt_of_not_le fun hh => h5 (alive_down ha e (by omega) hh)
  · exact absurd (alive_down ha (g + 2) (by omega) (by omega)) (h (by omega))
theorem inner_iff {l : List UInt8} {q qk : Prt} {f g : Nat} (hq : PI l q f) (hk : PI l qk g) (hgf : g < f) : (f : Int) < qk.to ↔ Alive l g (f + 1) := by
  have hfl := hq.lt
  constructor
  · intro h
    rcases hk.kind with ⟨_, hh, hc⟩ | ⟨_, _, ht, hd, _⟩
    · rcases hh with ⟨h1, h2, h3⟩ | ⟨h1, e, h2, h3, h4, h5, h6⟩
      · exact h3 (f + 1) (by omega) (by omega)
      · rw [h4] at h
        by_cases he : f + 1 < e
        · exact h6 _ (by omega) he
        · have e2 : e = f + 1 := by omega
          subst e2
          rcases push_keeps hq.al (h6 f hgf (by omega)) with ha | ⟨c, r, hr, hc76⟩
          · exact ha
          · have hm : (c, (g : Int)) ∈ FT l f := by
              have h8 : ((c, (g : Int)) : UInt8 × Int) ∈ (rAt l f).1 := by rw [hr]; exact List.mem_cons_self ..
              rw [rAt_split] at h8
              rcases List.mem_append.1 h8 with h8 | h8
              · simpa [FT] using h8
              · simp at h8
                rw [h8.1] at hc76
                exact absurd hc76 (by decide)
            obtain ⟨hfe, _⟩ := dol_top hm hc76
            subst hfe
            exact hc c hm hc76
    · exfalso
      rw [ht] at h
      have e := dol_x hd (f - g) (by omega) (by omega)
      rw [show g + 1 + (f - g) = f + 1 by omega] at e
      have h1 := (XT_fall l (g + 1)).2 f (by rw [e]; exact List.mem_cons_of_mem _ (alive_x.1 hq.al))
      omega
  · intro ha
    rcases pi_not_dol hk hgf hfl ha with ⟨_, h⟩ | ⟨_, e, h1, h2, h3, _⟩
    · rw [h]; omega
    · rw [h3]; omega
theorem pi_to {l : List UInt8} {q : Prt} {f : Nat} (hq : PI l q f) : (f : Int) < q.to ∧ q.to ≤ (l.length : Int) := by
  have hfl := hq.lt
  rcases hq.kind with ⟨_, h, _⟩ | ⟨_, _, h, _, _⟩
  · rcases h with ⟨_, h, _⟩ | ⟨_, e, h1, h2, h3, _⟩
    · rw [h]; omega
    · rw [h3]; omega
  · have := parL_le l (f + 1)
    rw [h]; omega
theorem inner_le {l : List UInt8} {q qk : Prt} {f g : Nat} (hq : PI l q f) (hk : PI l qk g) (hgf : g < f) (ha : Alive l g (f + 1)) : q.to ≤ qk.to := by
  have hfl := hq.lt
  rcases pi_not_dol hk hgf hfl ha with ⟨_, h⟩ | ⟨_, e, h1, h2, h3, h4⟩
  · rw [h]; exact (pi_to hq).2
  · rw [h3]
    rcases hq.kind with ⟨_, h, _⟩ | ⟨_, _, ht, hd, _⟩
    · rcases h with ⟨_, h5, h6⟩ | ⟨_, e', h5, h6, h7, h8, h9⟩
      · exact absurd (below_alive hq.al ha (h6 e (by omega) h2)) h4
      · rw [h7]
        by_cases hc : e' ≤ e
        · omega
        · exact absurd (below_alive hq.al ha (h9 e (by omega) (by omega))) h4
    · rw [ht]
      by_cases hc : f + 1 + parL l (f + 1) ≤ e
      · omega
      · have e2 := dol_x hd (e - (f + 1)) (by omega) (by omega)
        rw [show f + 1 + (e - (f + 1)) = e by omega] at e2
        have h5 := alive_x.1 ha
        rw [e2] at h5
        rcases List.mem_cons.1 h5 with h5 | h5
        · omega
        · exact absurd (alive_x.2 h5) h4
/-- The last of the first k parts that goes beyond a place. -/
def upF (L : List Prt) (x : Int) : Nat → Int
  | 0 => -1
  | k + 1 => if x < (L.getD k dP).to then (k : Int) else upF L x k
theorem upF_none (L : List Prt) (x : Int) : ∀ i, (∀ k, k < i → ¬ x < (L.getD k dP).to) → upF L x i = -1
  | 0, _ => rfl
  | i + 1, h => by
    unfold upF
    rw [if_neg (h i (by omega))]
    exact upF_none L x i (fun k hk => h k (by omega))
theorem upF_at (L : List Prt) (x : Int) (u : Nat) (hu : x < (L.getD u dP).to) : ∀ i, u < i → (∀ k, u < k → k < i → ¬ x < (L.getD k dP).to) → upF L x i = u
  | 0, h, _ => by omega
  | i + 1, h, hh => by
    unfold upF
    by_cases e : u = i
    · subst e; rw [if_pos hu]
    · rw [if_neg (hh i (by omega) (by omega))]
      exact upF_at L x u hu i (by omega) (fun k h1 h2 => hh k h1 (by omega))
theorem rise_lt {L : List Prt} (hr : (frs L).Pairwise (· < ·)) {i k : Nat} {p q : Prt} (hi : L[i]? = some p) (hk : L[k]? = some q) : k < i ↔ q.fr < p.fr := by
  obtain ⟨h1, h2⟩ := List.getElem?_eq_some_iff.1 hi
  obtain ⟨h3, h4⟩ := List.getElem?_eq_some_iff.1 hk
  have hp := List.pairwise_iff_getElem.1 hr
  have g1 : (frs L)[i]'(by simpa using h1) = p.fr := by simp [frs, h2]
  have g3 : (frs L)[k]'(by simpa using h3) = q.fr := by simp [frs, h4]
  constructor
  · intro h
    have := hp k i (by simpa using h3) (by simpa using h1) h
    rwa [g1, g3] at this
  · intro h
    refine Nat.lt_of_not_le fun hh => ?_
    rcases Nat.lt_or_eq_of_le hh with h5 | h5
    · have := hp i k (by simpa using h1) (by simpa using h3) h5
      rw [g1, g3] at this
      omega
    · subst h5
      rw [hi] at hk
      injection hk with hk
      subst hk
      omega
theorem getD_some {L : List Prt} {k : Nat} {q : Prt} (h : L[k]? = some q) : L.getD k dP = q := by rw [List.getD_eq_getElem?_getD, h]; rfl
theorem parts_at {l : List UInt8} {i : Nat} {q : Prt} (h : (partsL l)[i]? = some q) : ∃ f, PI l q f := parts_pi (List.mem_of_getElem? h)
structure Nest (n : Nat) (L : List Prt) (i : Nat) (q : Prt) : Prop where
  f0 : 0 ≤ q.fr
  ft : q.fr < q.to
  tn : q.to ≤ (n : Int)
  rise : ∀ k p, k < i → L[k]? = some p → p.fr < q.fr
  nest : ∀ k p, k < i → L[k]? = some p → q.fr < p.to → q.to ≤ p.to
  up : upF L q.fr i = q.up
theorem nest_law (l : List UInt8) (i : Nat) (q : Prt) (hi : (partsL l)[i]? = some q) : Nest l.length (partsL l) i q := by
  obtain ⟨f, hq⟩ := parts_at hi
  have hr := parts_rise l
  have hto := pi_to hq
  have hlt : ∀ k p, k < i → (partsL l)[k]? = some p → p.fr < q.fr := fun k p hk hp => (rise_lt hr hi hp).1 hk
  have hkey : ∀ k p, k < i → (partsL l)[k]? = some p → ∃ g, PI l p g ∧ g < f ∧ (q.fr < p.to ↔ Alive l g (f + 1)) := by
    intro k p hk hp
    obtain ⟨g, hg⟩ := parts_at hp
    have h1 := hlt k p hk hp
    rw [hg.fr, hq.fr] at h1
    exact ⟨g, hg, by omega, by rw [hq.fr]; exact inner_iff hq hg (by omega)⟩
  refine ⟨by rw [hq.fr]; omega, by rw [hq.fr]; exact hto.1, hto.2, hlt, ?_, ?_⟩
  · intro k p hk hp h
    obtain ⟨g, hg, hgf, hiff⟩ := hkey k p hk hp
    exact inner_le hq hg hgf (hiff.1 h)
  · have hil := (List.getElem?_eq_some_iff.1 hi).1
    obtain ⟨A, c, hF, hs⟩ := new_at hq.al
    have hmem : ∀ g : Nat, g ≠ f → Alive l g (f + 1) → (g : Int) ∈ pls A := by
      intro g hgf ha
      unfold Alive at ha
      rw [hF, pls, List.map_append] at ha
      rcases List.mem_append.1 ha with ha | ha
      · exact ha
      · simp at ha; omega
    rw [hq.up]
    unfold upI
    rw [hF, List.dropLast_concat]
    rcases List.eq_nil_or_concat A with h | ⟨G, y, h⟩
    · subst h
      refine upF_none _ _ _ (fun k hk => ?_)
      have hk' : k < (partsL l).length := by omega
      obtain ⟨g, hg, hgf, hiff⟩ := hkey k _ hk (List.getElem?_eq_getElem hk')
      rw [getD_some (List.getElem?_eq_getElem hk'), hiff]
      intro ha
      have := hmem g (by omega) ha
      cases this
    · have h' : A = G ++ [y] := by simpa using h
      have hyA : y.2 ∈ pls A := by rw [h']; simp [pls]
      have hyF := hs _ hyA
      have hyC := (canon_ci l f).sub _ hyF
      have hb := (canon_ci l f).bnd _ hyC
      rw [h']
      simp only [List.getLast?_append, List.getLast?_singleton, Option.some_or]
      have hu := idx_lt hyC
      have hfu : (frs (canon l f))[idxP (canon l f) y.2]? = some y.2 := by
        have h1 := idx_fr hyC
        rw [List.getD_eq_getElem?_getD, List.getElem?_eq_getElem hu] at h1
        rw [List.getElem?_map, List.getElem?_eq_getElem hu]
        simpa using h1
      have hpre := canon_pre l f l.length (Nat.le_of_lt hq.lt)
      rw [← frs_parts] at hpre
      obtain ⟨T, hT⟩ := hpre
      have hfu2 : (frs (partsL l))[idxP (canon l f) y.2]? = some y.2 := by
        rw [← hT, List.getElem?_append_left (by simpa [frs] using hu)]
        exact hfu
      generalize idxP (canon l f) y.2 = u at *
      rw [List.getElem?_map] at hfu2
      cases hpu : (partsL l)[u]? with
      | none => rw [hpu] at hfu2; cases hfu2
      | some pu =>
        rw [hpu] at hfu2
        simp at hfu2
        have hui : u < i := (rise_lt hr hi hpu).2 (by rw [hfu2, hq.fr]; omega)
        obtain ⟨g, hg, hgf, hiff⟩ := hkey u pu hui hpu
        have hgy : (g : Int) = y.2 := by rw [← hg.fr, hfu2]
        refine upF_at _ _ u ?_ i hui ?_
        · rw [getD_some hpu, hiff]
          unfold Alive
          rw [hgy, hF, pls, List.map_append]
          exact List.mem_append_left _ hyA
        · intro k h1 h2
          have hk' : k < (partsL l).length := by omega
          obtain ⟨g', hg', hgf', hiff'⟩ := hkey k _ h2 (List.getElem?_eq_getElem hk')
          rw [getD_some (List.getElem?_eq_getElem hk'), hiff']
          intro ha
          have h3 := (rise_lt hr (List.getElem?_eq_getElem hk') hpu).1 h1
          rw [hg'.fr, hfu2] at h3
          have h4 := hmem g' (by omega) ha
          have h5 := (FT_rise l (f + 1)).1
          rw [hF, h'] at h5
          rw [h', pls, List.map_append] at h4
          rcases List.mem_append.1 h4 with h4 | h4
          · simp only [pls, List.map_append, List.append_assoc] at h5
            have := (List.pairwise_append.1 h5).2.2 _ h4 y.2 (by simp)
            omega
          · simp at h4; omega
end Go.Proofs.YtffngggdelmkpaaGreatDoor
/- The frames at a place, but for dollars of no more than a parameter, are the parts around it. No program is in sight. -/
namespace Go.Proofs.YtffngggdelmkpaaGreatDoor
set_option linter.unusedVariables false
set_option linter.unusedSimpArgs false
set_option maxRecDepth 100000
theorem rise_ext : ∀ (A B : List Int), A.Pairwise (· < ·) → B.Pairwise (· < ·) → (∀ x, x ∈ A ↔ x ∈ B) → A = B
  | [], [], _, _, _ => rfl
  | [], b :: B, _, _, h => absurd ((h b).2 (List.mem_cons_self ..)) (by simp)
  | a :: A, [], _, _, h => absurd ((h a).1 (List.mem_cons_self ..)) (by simp)
  | a :: A, b :: B, hA, hB, h => by
    obtain ⟨a1, a2⟩ := List.pairwise_cons.1 hA
    obtain ⟨b1, b2⟩ := List.pairwise_cons.1 hB
    have e : a = b := by
      rcases List.mem_cons.1 ((h a).1 (List.mem_cons_self ..)) with e | e
      · exact e
      · have x1 := b1 a e
        rcases List.mem_cons.1 ((h b).2 (List.mem_cons_self ..)) with e2 | e2
        · exact e2.symm
        · have x2 := a1 b e2; omega
    subst e
    rw [rise_ext A B a2 b2 fun x => ?_]
    constructor
    · intro hx
      rcases List.mem_cons.1 ((h x).1 (List.mem_cons_of_mem _ hx)) with e | e
      · have := a1 x hx; omega
      · exact e
    · intro hx
      rcases List.mem_cons.1 ((h x).2 (List.mem_cons_of_mem _ hx)) with e | e
      · have := b1 x hx; omega
      · exact e
def arP (x : Int) (q : Prt) : Prop := q.fr < x ∧ (x < q.to ∨ q.op = true ∧ x = q.to)
/-- Is a place that of a dollar of no more than a parameter? -/
def dolF (L : List Prt) (p : Int) : Bool := L.any fun q => q.fr == p && q.mode == 12
theorem same_part {L : List Prt} (hr : (frs L).Pairwise (· < ·)) {q r : Prt} (hq : q ∈ L) (hr2 : r ∈ L) (e : q.fr = r.fr) : q = r := by
  obtain ⟨i, hi⟩ := List.mem_iff_getElem?.1 hq
  obtain ⟨j, hj⟩ := List.mem_iff_getElem?.1 hr2
  have h1 := rise_lt hr hi hj
  have h2 := rise_lt hr hj hi
  have : i = j := by
    have a1 : ¬ j < i := fun h => by have := h1.1 h; omega
    have a2 : ¬ i < j := fun h => by have := h2.1 h; omega
    omega
  subst this
  rw [hi] at hj
  exact Option.some.inj hj
theorem part_of {l : List UInt8} {f k : Nat} (hk : k ≤ l.length) (h : Alive l f k) : ∃ q ∈ partsL l, PI l q f := by
  have hlt := alive_lt h
  have ha := alive_down h (f + 1) (by omega) (by omega)
  have h1 := (canon_ci l (f + 1)).sub _ ha
  have h2 := (canon_pre l (f + 1) l.length (by omega)).subset h1
  rw [← frs_parts] at h2
  obtain ⟨q, hq, he⟩ := List.mem_map.1 h2
  obtain ⟨g, hg⟩ := parts_pi hq
  have : g = f := by have := hg.fr; omega
  subst this
  exact ⟨q, hq, hg⟩
theorem stack_law (l : List UInt8) (x : Nat) (hx : x ≤ l.length) (P : Prt → Bool) (hP : ∀ q, P q = true ↔ arP x q) :
    (((partsL l).filter P).filter (fun q => !(q.mode == 12))).map (·.fr) = (pls (FT l x)).filter (fun p => !dolF (partsL l) p) := by
  have hr := parts_rise l
  refine rise_ext _ _ ?_ ?_ ?_
  · have : List.Sublist ((((partsL l).filter P).filter (fun q => !(q.mode == 12))).map (·.fr)) (frs (partsL l)) := (List.filter_sublist.trans List.filter_sublist).map _
    exact hr.sublist this
  · exact (FT_rise l x).1.sublist List.filter_sublist
  · intro p
    constructor
    · intro h
      obtain ⟨q, hq, rfl⟩ := List.mem_map.1 h
      obtain ⟨hq, hm⟩ := List.mem_filter.1 hq
      obtain ⟨hq, hp⟩ := List.mem_filter.1 hq
      have hm' : q.mode ≠ 12 := by simpa using hm
      obtain ⟨h1, h2⟩ := (hP q).1 hp
      obtain ⟨f, hf⟩ := parts_pi hq
      rw [List.mem_filter]
      have hfr := hf.fr
      refine ⟨?_, ?_⟩
      · rcases hf.kind with ⟨_, hh, _⟩ | ⟨h12, _⟩
        · rw [hfr]
          rcases hh with ⟨_, _, h5⟩ | ⟨h4, e, h5, h6, h7, h8, h9⟩
          · exact h5 x (by omega) hx
          · refine h9 x (by omega) ?_
            rcases h2 with h2 | ⟨h2, _⟩
            · omega
            · rw [h4] at h2; cases h2
        · exact absurd h12 hm'
      · rw [Bool.not_eq_true', Bool.eq_false_iff]
        intro hd
        obtain ⟨r, hr2, hd⟩ := List.any_eq_true.1 hd
        simp only [Bool.and_eq_true, beq_iff_eq] at hd
        have := same_part hr hr2 hq hd.1
        subst this
        exact hm' hd.2
    · intro h
      obtain ⟨hp, hd⟩ := List.mem_filter.1 h
      obtain ⟨h0, h1⟩ := (FT_rise l x).2 p hp
      obtain ⟨f, rfl⟩ := Int.eq_ofNat_of_zero_le h0
      have ha : Alive l f x := hp
      obtain ⟨q, hq, hf⟩ := part_of hx ha
      have hm : q.mode ≠ 12 := by
        intro hm
        rw [Bool.not_eq_true', Bool.eq_false_iff] at hd
        exact hd (List.any_eq_true.2 ⟨q, hq, by simp [hf.fr, hm]⟩)
      refine List.mem_map.2 ⟨q, List.mem_filter.2 ⟨List.mem_filter.2 ⟨hq, (hP q).2 ?_⟩, by simpa using hm⟩, hf.fr⟩
      have hfr := hf.fr
      rcases hf.kind with ⟨_, hh, _⟩ | ⟨h12, _⟩
      · rcases hh with ⟨h4, h5, _⟩ | ⟨h4, e, h5, h6, h7, h8, h9⟩
        · refine ⟨by omega, ?_⟩
          by_cases e : x = l.length
          · exact .inr ⟨h4, by omega⟩
          · exact .inl (by omega)
        · refine ⟨by omega, .inl ?_⟩
          have : x < e := Nat.lt_of_not_le fun hh => h8 (alive_down ha e (by omega) hh)
          omega
      · exact absurd h12 hm
theorem upF_le (L : List Prt) (x : Int) : ∀ k, -1 ≤ upF L x k ∧ upF L x k < (k : Int)
  | 0 => by simp [upF]
  | k + 1 => by
    have := upF_le L x k
    unfold upF
    split <;> omega
end Go.Proofs.YtffngggdelmkpaaGreatDoor
