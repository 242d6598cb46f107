/- Each part by the frames that make it: from where to where it goes. No program is in sight. -/
import Derived.Test.YtjkiapgboljabaaPl07e
import Derived.Test.YtjkiapgboljabaaCls
namespace Go.Proofs.Ytjkiapgboljabaa
set_option linter.unusedVariables false
set_option linter.unusedSimpArgs false
set_option maxRecDepth 100000
def Alive (l : List UInt8) (f k : Nat) : Prop := (f : Int) ∈ pls (FT l k)
theorem alive_x {l : List UInt8} {f k : Nat} : Alive l f k ↔ (f : Int) ∈ pls (XT l k) := by simp [Alive, FT, pls]
theorem alive_lt {l : List UInt8} {f k : Nat} (h : Alive l f k) : f < k := by have := (FT_rise l k).2 _ h; omega
theorem alive_back {l : List UInt8} {f k : Nat} (h : Alive l f (k + 1)) (hk : k ≠ f) : Alive l f k := by
  obtain ⟨j, A, B, hF, hj, hA, hB⟩ := FT_split l k
  unfold Alive at h
  rw [hF, pls, List.map_append] at h
  rcases List.mem_append.1 h with h | h
  · have h' : (f : Int) ∈ pls A := h
    rw [hA] at h'
    exact List.mem_of_mem_take h'
  · rcases hB with rfl | ⟨c, rfl⟩
    · cases h
    · simp at h; omega
theorem alive_down {l : List UInt8} {f k : Nat} (h : Alive l f k) : ∀ j, f < j → j ≤ k → Alive l f j := by
  induction k with
  | zero => intro j h1 h2; have := alive_lt h; omega
  | succ k ih =>
    intro j h1 h2
    by_cases e : j = k + 1
    · subst e; exact h
    · exact ih (alive_back h (by omega)) j h1 (by omega)
theorem new_at {l : List UInt8} {f : Nat} (h : Alive l f (f + 1)) : ∃ A c, FT l (f + 1) = A ++ [(c, (f : Int))] ∧ ∀ p ∈ pls A, p ∈ pls (FT l f) := by
  obtain ⟨j, A, B, hF, hj, hA, hB⟩ := FT_split l f
  have hs : ∀ p ∈ pls A, p ∈ pls (FT l f) := fun p hp => by rw [hA] at hp; exact List.mem_of_mem_take hp
  rcases hB with rfl | ⟨c, rfl⟩
  · unfold Alive at h
    rw [hF, List.append_nil] at h
    have := (FT_rise l f).2 _ (hs _ h)
    omega
  · exact ⟨A, c, hF, hs⟩
theorem take_const (l : List UInt8) (f n : Nat) (h0 : (pls (FT l (f + 1)))[n]? = some (f : Int)) : ∀ k, f + 1 ≤ k → Alive l f k → (pls (FT l k)).take (n + 1) = (pls (FT l (f + 1))).take (n + 1) := by
  intro k hk
  induction k with
  | zero => omega
  | succ k ih =>
    intro hm
    by_cases e : k = f
    · subst e; rfl
    · have hb := alive_back hm e
      have ih' := ih (by omega) hb
      have hx := idx_const l f n h0 k (by omega) hb
      obtain ⟨j, A, B, hF, hj, hA, hB⟩ := FT_split l k
      have hmA : (f : Int) ∈ pls A := by
        unfold Alive at hm
        rw [hF, pls, List.map_append] at hm
        rcases List.mem_append.1 hm with h | h
        · exact h
        · rcases hB with rfl | ⟨c, rfl⟩
          · cases h
          · simp at h; omega
      rw [hA] at hmA
      obtain ⟨i, hi, hie⟩ := List.mem_take_iff_getElem.1 hmA
      have hij : i = n := nodup_idx (FT_nodup l k) (List.getElem?_eq_some_iff.2 ⟨by omega, hie⟩) hx
      rw [← ih', hF, pls, List.map_append]
      rw [List.take_append_of_le_length (by
        have := congrArg List.length hA
        simp [pls] at this ⊢
        simp [pls] at hi
        omega)]
      rw [show A.map (·.2) = pls A from rfl, hA, List.take_take, Nat.min_eq_left (by omega)]
/-- What lies below a frame stays as long as it does. -/
theorem below_alive {l : List UInt8} {f g k : Nat} (hp : Alive l f (f + 1)) (hg : Alive l g (f + 1)) (hk : Alive l f k) : Alive l g k := by
  obtain ⟨A, c, hF, hs⟩ := new_at hp
  have h0 : (pls (FT l (f + 1)))[A.length]? = some (f : Int) := by rw [hF]; simp [pls]
  have ht := take_const l f A.length h0 k (alive_lt hk) hk
  rw [List.take_of_length_le (l := pls (FT l (f + 1))) (by rw [hF]; simp [pls])] at ht
  unfold Alive at hg ⊢
  rw [← ht] at hg
  exact List.mem_of_mem_take hg
theorem pls_rat (l : List UInt8) (k : Nat) : pls (rAt l k).1 = pls (XT l k) ++ [0] := by rw [rAt_split]; simp [pls]
/-- A byte that opens a frame takes a dollar away at most. -/
theorem push_keeps {l : List UInt8} {f g : Nat} (h : Alive l f (f + 1)) (hg : Alive l g f) : Alive l g (f + 1) ∨ ∃ c r, (rAt l f).1 = (c, (g : Int)) :: r ∧ c.toNat = 76 := by
  obtain ⟨A, c, hF, hs⟩ := new_at h
  have hX : pls (XT l (f + 1)) = (f : Int) :: pls A.reverse := by
    have e : XT l (f + 1) = (FT l (f + 1)).reverse := by simp [FT]
    rw [e, hF]; simp [pls]
  have hgf := alive_lt hg
  have hnot : (f : Int) ∉ pls (rAt l f).1 := by
    rw [pls_rat]
    intro hh
    rcases List.mem_append.1 hh with hh | hh
    · have := alive_lt (alive_x.2 hh); omega
    · simp at hh; omega
  have hpl : pls (rStep (rAt l f).1 (rAt l f).2 (l.getD f 0) (f : Int)).1 = (f : Int) :: (pls A.reverse ++ [0]) := by
    show pls (rAt l (f + 1)).1 = _
    rw [pls_rat, hX]; rfl
  have hgx := alive_x.1 hg
  have hgA : (g : Int) ∈ pls A.reverse → Alive l g (f + 1) := fun hh => alive_x.2 (by rw [hX]; exact List.mem_cons_of_mem _ hh)
  rcases rStep_p3 (rAt l f).1 (rAt l f).2 (l.getD f 0) (f : Int) with h3 | ⟨c', p, r, he, hc, h3⟩
  · have e := h3.push hpl hnot
    rw [pls_rat] at e
    rw [← (List.append_left_inj _).1 e] at hgx
    exact .inl (hgA hgx)
  · have e := h3.push hpl (fun hh => hnot (by rw [he]; exact List.mem_cons_of_mem _ hh))
    have e2 : pls (XT l f) ++ [0] = p :: pls A.reverse ++ [0] := by
      rw [← pls_rat, he, List.cons_append, e]
      rfl
    rw [(List.append_left_inj _).1 e2] at hgx
    rcases List.mem_cons.1 hgx with hh | hh
    · exact .inr ⟨c', r, by rw [he, hh], hc⟩
    · exact .inl (hgA hh)
theorem cnt_76 (c : UInt8) : cnt c = 12 ↔ c.toNat = 76 := by
  have := byte_all (fun c => decide (cnt c = 12) == decide (c.toNat = 76)) (by decide +kernel) c
  simpa using this
/-- A dollar's frame is the last one, and but one byte old. -/
theorem dol_top {l : List UInt8} {f k : Nat} {c : UInt8} (h : (c, (f : Int)) ∈ FT l k) (hc : c.toNat = 76) : k = f + 1 ∧ ∃ d p r, (rAt l k).1 = (76, (f : Int)) :: (d, p) :: r := by
  have hm : (c, (f : Int)) ∈ (rAt l k).1 := by rw [rAt_split]; exact List.mem_append_left _ (by simpa [FT] using h)
  rcases rAt_d l k with h1 | ⟨d, q, r, he, h1, _, _⟩
  · exact absurd hc (h1 _ hm)
  · rw [he] at hm
    rcases List.mem_cons.1 hm with hm | hm
    · simp only [Prod.mk.injEq] at hm
      exact ⟨by omega, d, q, r, by rw [he, hm.2]⟩
    · exact absurd hc (h1 _ hm)
theorem scan_spec (F : Nat → Stk) (fr : Int) (n : Nat) : ∀ (m k : Nat) (q : Prt), q.op = true →
    (scanR F fr n m k q).fr = q.fr ∧ (scanR F fr n m k q).up = q.up ∧
    (((scanR F fr n m k q).op = true ∧ (scanR F fr n m k q).to = q.to ∧ (∀ j, k ≤ j → j < k + m → fr ∈ pls (F j))) ∨ ((scanR F fr n m k q).op = false ∧ ∃ e : Nat, k ≤ e ∧ e < k + m ∧ (scanR F fr n m k q).to = e ∧ fr ∉ pls (F e) ∧ ∀ j, k ≤ j → j < e → fr ∈ pls (F j))) ∧
    (((scanR F fr n m k q).mode = q.mode ∧ (fr ∉ pls (F k) ∨ m = 0)) ∨ ∃ e, k ≤ e ∧ e < k + m ∧ fr ∈ pls (F e) ∧ (scanR F fr n m k q).mode = cnt ((F e).getD (n - 1) (0, 0)).1)
  | 0, k, q, ho => ⟨rfl, rfl, .inl ⟨ho, rfl, fun j _ _ => by omega⟩, .inl ⟨rfl, .inr rfl⟩⟩
  | m + 1, k, q, ho => by
    unfold scanR
    by_cases hm : fr ∈ pls (F k)
    · rw [if_neg (fun h => atR_zero.1 h hm)]
      obtain ⟨h1, h2, h3, h4⟩ := scan_spec F fr n m (k + 1) { q with mode := cnt ((F k).getD (n - 1) (0, 0)).1 } ho
      refine ⟨h1, h2, ?_, .inr ?_⟩
      · rcases h3 with ⟨h3, h5, h6⟩ | ⟨h3, e, h5, h6, h7, h8, h9⟩
        · refine .inl ⟨h3, h5, fun j hj hj2 => ?_⟩
          by_cases e : j = k
          · subst e; exact hm
          · exact h6 j (by omega) (by omega)
        · refine .inr ⟨h3, e, by omega, by omega, h7, h8, fun j hj hj2 => ?_⟩
          by_cases e : j = k
          · subst e; exact hm
          · exact h9 j (by omega) (by omega)
      · rcases h4 with ⟨h4, _⟩ | ⟨e, h5, h6, h7, h8⟩
        · exact ⟨k, Nat.le_refl _, by omega, hm, h4⟩
        · exact ⟨e, by omega, by omega, h7, h8⟩
    · rw [if_pos (atR_zero.2 hm)]
      exact ⟨rfl, rfl, .inr ⟨rfl, k, Nat.le_refl _, by omega, rfl, hm, fun j _ _ => by omega⟩, .inl ⟨rfl, .inl hm⟩⟩
structure PI (l : List UInt8) (q : Prt) (f : Nat) : Prop where
  fr : q.fr = f
  lt : f < l.length
  al : Alive l f (f + 1)
  up : q.up = upI (FT l (f + 1)) (canon l f)
  kind : (q.mode ≠ 12 ∧ ((q.op = true ∧ q.to = l.length ∧ ∀ j, f < j → j ≤ l.length → Alive l f j) ∨ (q.op = false ∧ ∃ e : Nat, f + 1 < e ∧ e ≤ l.length ∧ q.to = e ∧ ¬ Alive l f e ∧ ∀ j, f < j → j < e → Alive l f j)) ∧ ∀ c : UInt8, (c, (f : Int)) ∈ FT l (f + 1) → c.toNat = 76 → Alive l f (f + 2)) ∨
    (q.mode = 12 ∧ q.op = false ∧ q.to = f + 1 + (parL l (f + 1) : Int) ∧ (∃ d p r, (rAt l (f + 1)).1 = (76, (f : Int)) :: (d, p) :: r) ∧ (f + 2 ≤ l.length → ¬ Alive l f (f + 2)))
theorem pi_of {l : List UInt8} {f : Nat} (hf : f < l.length) {q : Prt} (hq : q ∈ newP (FT l (f + 1)) f (canon l f)) : PI l (finP l (evol l (l.length - (f + 1)) (f + 2) q)) f := by
  have hal : Alive l f (f + 1) := by
    refine Classical.byContradiction fun h => ?_
    rw [newP_none (fun p hp e => h (by unfold Alive; rw [← e]; exact hp))] at hq
    cases hq
  obtain ⟨A, c, hF, hs⟩ := new_at hal
  rw [newP_of hF] at hq
  simp only [List.mem_singleton] at hq
  have h0 : (pls (FT l (f + 1)))[A.length]? = some (f : Int) := by rw [hF]; simp [pls]
  have hop : q.op = true := by rw [hq]
  have hfr : q.fr = f := by rw [hq]
  have hup : q.up = upI (FT l (f + 1)) (canon l f) := by rw [hq]
  have hmd : q.mode = cnt c := by rw [hq]
  have hse := scan_evol l f (A.length + 1) (fun k hk hm => idx_const l f A.length h0 k hk hm) (l.length - (f + 1)) (f + 2) q hop hfr (by omega)
  obtain ⟨s1, s2, s3, s4⟩ := scan_spec (FT l) f (A.length + 1) (l.length - (f + 1)) (f + 2) { q with to := l.length } hop
  unfold finP
  rw [← hse]
  generalize scanR (FT l) f (A.length + 1) (l.length - (f + 1)) (f + 2) { q with to := l.length } = r at *
  have r1 : r.fr = f := s1.trans hfr
  have r2 : r.up = upI (FT l (f + 1)) (canon l f) := s2.trans hup
  by_cases hm : r.mode = 12
  · have e : fin1 l r = { r with to := r.fr + 1 + (parL l (r.fr + 1).toNat : Int), op := false } := by unfold fin1; rw [if_pos hm]
    rw [e]
    have hx : cnt c = 12 ∧ ((f : Int) ∉ pls (FT l (f + 2)) ∨ l.length - (f + 1) = 0) := by
      rcases s4 with ⟨s4, s5⟩ | ⟨e, h1, h2, h3, h4⟩
      · rw [hm] at s4
        exact ⟨by rw [← hmd]; exact s4.symm, s5⟩
      · exfalso
        rw [hm] at h4
        have hc := (cnt_76 _).1 h4.symm
        have h5 := idx_const l f A.length h0 e (by omega) h3
        rw [Nat.add_sub_cancel] at hc
        rw [List.getElem?_map] at h5
        cases hy : (FT l e)[A.length]? with
        | none => rw [hy] at h5; cases h5
        | some y =>
          rw [hy] at h5
          obtain ⟨c', p'⟩ := y
          simp at h5
          subst h5
          rw [List.getD_eq_getElem?_getD, hy] at hc
          have := (dol_top (List.mem_of_getElem? hy) hc).1
          omega
    have hc := (cnt_76 c).1 hx.1
    refine ⟨r1, hf, hal, r2, .inr ⟨hm, rfl, ?_, (dol_top (c := c) (by rw [hF]; simp) hc).2, ?_⟩⟩
    · show r.fr + 1 + (parL l (r.fr + 1).toNat : Int) = _
      rw [r1]
      rfl
    · intro h2
      rcases hx.2 with h | h
      · exact h
      · omega
  · have e : fin1 l r = r := by unfold fin1; rw [if_neg hm]
    rw [e]
    refine ⟨r1, hf, hal, r2, .inl ⟨hm, ?_, ?_⟩⟩
    rotate_left
    · intro c' hc' h76
      rcases s4 with ⟨s4, s5⟩ | ⟨e, h1, h2, h3, h4⟩
      · exfalso
        obtain ⟨i, hi⟩ := List.mem_iff_getElem?.1 hc'
        have hi2 : (pls (FT l (f + 1)))[i]? = some (f : Int) := by rw [List.getElem?_map, hi]; rfl
        have := nodup_idx (FT_nodup l (f + 1)) hi2 h0
        subst this
        rw [hF] at hi
        simp at hi
        subst hi
        exact hm (by rw [s4]; show q.mode = 12; rw [hmd]; exact (cnt_76 _).2 h76)
      · exact alive_down h3 (f + 2) (by omega) (by omega)
    rcases s3 with ⟨h1, h2, h3⟩ | ⟨h1, e, h2, h3, h4, h5, h6⟩
    · refine .inl ⟨h1, h2, fun j hj hj2 => ?_⟩
      by_cases e : j = f + 1
      · subst e; exact hal
      · exact h3 j (by omega) (by omega)
    · refine .inr ⟨h1, e, by omega, by omega, h4, h5, fun j hj hj2 => ?_⟩
      by_cases e : j = f + 1
      · subst e; exact hal
      · exact h6 j (by omega) (by omega)
theorem parts_flat (l : List UInt8) : partsL l = (List.range l.length).flatMap (fun f => (newP (FT l (f + 1)) f (canon l f)).map fun q => finP l (evol l (l.length - (f + 1)) (f + 2) q)) := by
  rw [← outR_parts]; exact (outR_canon l l.length (Nat.le_refl _)).1
theorem parts_pi {l : List UInt8} {q : Prt} (h : q ∈ partsL l) : ∃ f, PI l q f := by
  rw [parts_flat] at h
  obtain ⟨f, hf, hq⟩ := List.mem_flatMap.1 h
  obtain ⟨q0, h0, rfl⟩ := List.mem_map.1 hq
  exact ⟨f, pi_of (List.mem_range.1 hf) h0⟩
theorem frs_parts (l : List UInt8) : frs (partsL l) = frs (canon l l.length) := by
  unfold partsL
  simp only [frs, List.map_map]
  exact List.map_congr_left fun q _ => finP_fr l q
theorem parts_rise (l : List UInt8) : (frs (partsL l)).Pairwise (· < ·) := by rw [frs_parts]; exact (canon_ci l l.length).rise
theorem canon_pre (l : List UInt8) (k : Nat) : ∀ n, k ≤ n → frs (canon l k) <+: frs (canon l n) := by
  intro n hn
  induction n with
  | zero => obtain rfl : k = 0 := by omega
            exact List.prefix_refl _
  | succ n ih =>
    by_cases e : k = n + 1
    · subst e; exact List.prefix_refl _
    · rw [frs_canon]
      exact (ih (by omega)).trans (List.prefix_append _ _)
end Go.Proofs.Ytjkiapgboljabaa
