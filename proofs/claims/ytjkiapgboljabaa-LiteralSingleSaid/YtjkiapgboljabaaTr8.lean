/- Plain facts: which part begins at a place, by the frames behind the bytes; the text of a word from a place on, as a relation without fuel. No program is in sight. -/
import Derived.Test.YtjkiapgboljabaaPl8
namespace Go.Proofs.Ytjkiapgboljabaa
set_option linter.unusedVariables false
set_option linter.unusedSimpArgs false
set_option maxRecDepth 100000
/-! The mode of a part. -/
theorem scan_last (F : Nat → Stk) (fr : Int) (n : Nat) : ∀ (m k : Nat) (q : Prt) (e : Nat), k ≤ e → e ≤ k + m → (∀ j, k ≤ j → j < e → fr ∈ pls (F j)) → (e = k + m ∨ fr ∉ pls (F e)) →
    (scanR F fr n m k q).mode = if k < e then cnt ((F (e - 1)).getD (n - 1) (0, 0)).1 else q.mode
  | 0, k, q, e, h1, h2, _, _ => by
    rw [if_neg (by omega)]; rfl
  | m + 1, k, q, e, h1, h2, h3, h4 => by
    unfold scanR
    by_cases hk : k < e
    · have hm := h3 k (Nat.le_refl _) hk
      rw [if_neg (fun h => atR_zero.1 h hm), if_pos hk]
      have := scan_last F fr n m (k + 1) { q with mode := cnt ((F k).getD (n - 1) (0, 0)).1 } e (by omega) (by omega) (fun j hj hj2 => h3 j (by omega) hj2) (by rcases h4 with h | h; exact .inl (by omega); exact .inr h)
      rw [this]
      split
      · rfl
      · obtain rfl : e = k + 1 := by omega
        rfl
    · obtain rfl : k = e := by omega
      have hm : fr ∉ pls (F k) := by rcases h4 with h | h; omega; exact h
      rw [if_pos (atR_zero.2 hm), if_neg hk]
theorem part_mode {l : List UInt8} {q : Prt} {x k : Nat} {c : UInt8} (h : q ∈ partsL l) (hx : q.fr = x) (hk : x < k) (hkl : k ≤ l.length) (hal : Alive l x k) (hend : k = l.length ∨ ¬ Alive l x (k + 1)) (hc : (c, (x : Int)) ∈ FT l k) : q.mode = cnt c := by
  rw [parts_flat] at h
  obtain ⟨f, hf, hq⟩ := List.mem_flatMap.1 h
  have hf := List.mem_range.1 hf
  obtain ⟨q0, hq0, rfl⟩ := List.mem_map.1 hq
  obtain rfl : f = x := by have := (pi_of hf hq0).fr; omega
  have ha1 := alive_down hal (f + 1) (by omega) (by omega)
  obtain ⟨A, d, hF, hs⟩ := new_at ha1
  rw [newP_of hF] at hq0
  simp only [List.mem_singleton] at hq0
  have i0 : (pls (FT l (f + 1)))[A.length]? = some (f : Int) := by rw [hF]; simp [pls]
  have hop : q0.op = true := by rw [hq0]
  have hfr : q0.fr = f := by rw [hq0]
  have hmd : q0.mode = cnt d := by rw [hq0]
  have hse := scan_evol l f (A.length + 1) (fun k hk hm => idx_const l f A.length i0 k hk hm) (l.length - (f + 1)) (f + 2) q0 hop hfr (by omega)
  have hsl := scan_last (FT l) f (A.length + 1) (l.length - (f + 1)) (f + 2) { q0 with to := l.length } (k + 1) (by omega) (by omega) (fun j hj hj2 => alive_down hal j (by omega) (by omega)) (by rcases hend with h | h; exact .inl (by omega); exact .inr h)
  have hm : (scanR (FT l) f (A.length + 1) (l.length - (f + 1)) (f + 2) { q0 with to := l.length }).mode = cnt c := by
    rw [hsl]
    obtain ⟨i, hi⟩ := List.mem_iff_getElem?.1 hc
    have hi2 : (pls (FT l k))[i]? = some (f : Int) := by rw [List.getElem?_map, hi]; rfl
    have hi3 := idx_const l f A.length i0 k (by omega) hal
    obtain rfl := nodup_idx (FT_nodup l k) hi2 hi3
    split
    · rw [Nat.add_sub_cancel, Nat.add_sub_cancel, List.getD_eq_getElem?_getD, hi]; rfl
    · obtain rfl : k = f + 1 := by omega
      show q0.mode = _
      rw [hmd]
      rw [hF] at hi
      simp at hi
      rw [hi]
  show (fin1 l (fixTo l.length (evol l (l.length - (f + 1)) (f + 2) q0))).mode = _
  rw [← hse]
  unfold fin1
  split
  · exact hm
  · exact hm
/-! What is found at a place. -/
theorem find_dead {l : List UInt8} {x : Nat} (h : ¬ Alive l x (x + 1)) : findP (partsL l) x = none := by
  unfold findP
  rw [List.find?_eq_none]
  intro q hq e
  obtain ⟨f, hf⟩ := parts_pi hq
  have : q.fr = (x : Int) := by simpa using e
  obtain rfl : f = x := by have := hf.fr; omega
  exact h hf.al
theorem find_alive {l : List UInt8} {x : Nat} (hx : x < l.length) (h : Alive l x (x + 1)) : ∃ q, findP (partsL l) x = some q ∧ q ∈ partsL l ∧ PI l q x := by
  obtain ⟨q, hq, hp⟩ := part_of (by omega) h
  cases hf : findP (partsL l) x with
  | none =>
    have := List.find?_eq_none.1 hf q hq
    simp [hp.fr] at this
  | some r =>
    obtain ⟨h1, h2, _⟩ := findP_some (pl_parts l) hf
    obtain rfl := same_part (parts_rise l) hq h1 (by rw [h2, hp.fr])
    exact ⟨q, rfl, hq, hp⟩
/-- A part that is shut at a place. -/
theorem find_shut {l : List UInt8} {x e : Nat} {c : UInt8} (hx : x + 1 < e) (he : e ≤ l.length) (hal : Alive l x (e - 1)) (hd : ¬ Alive l x e) (hc : (c, (x : Int)) ∈ FT l (e - 1)) (h76 : c.toNat ≠ 76) :
    ∃ q, findP (partsL l) x = some q ∧ q ∈ partsL l ∧ PI l q x ∧ q.mode = cnt c ∧ toN q = e ∧ q.op = false := by
  obtain ⟨q, hq, hm, hp⟩ := find_alive (l := l) (x := x) (by omega) (alive_down hal _ (by omega) (by omega))
  have hmd := part_mode hm hp.fr (k := e - 1) (by omega) (by omega) hal (.inr (by rw [show e - 1 + 1 = e by omega]; exact hd)) hc
  refine ⟨q, hq, hm, hp, hmd, ?_⟩
  have h12 : q.mode ≠ 12 := by rw [hmd]; exact fun h => h76 ((cnt_76 c).1 h)
  rcases hp.kind with ⟨_, ⟨_, h2, h3⟩ | ⟨h1, e', h2, h3, h4, h5, h6⟩, _⟩ | h
  · exact absurd (h3 e (by omega) he) hd
  · obtain rfl : e' = e := by
      have a1 : ¬ e < e' := fun hh => hd (h6 e (by omega) hh)
      have a2 : ¬ e' < e := fun hh => h5 (alive_down hal e' (by omega) (by omega))
      omega
    exact ⟨by unfold toN; omega, h1⟩
  · exact absurd h.1 h12
/-- A part that is open at the text's end. -/
theorem find_open {l : List UInt8} {x : Nat} {c : UInt8} (hx : x < l.length) (hal : Alive l x l.length) (hc : (c, (x : Int)) ∈ FT l l.length) (h76 : c.toNat ≠ 76) :
    ∃ q, findP (partsL l) x = some q ∧ q ∈ partsL l ∧ PI l q x ∧ q.mode = cnt c ∧ toN q = l.length ∧ q.op = true := by
  obtain ⟨q, hq, hm, hp⟩ := find_alive (l := l) (x := x) hx (alive_down hal _ (by omega) (by omega))
  have hmd := part_mode hm hp.fr (k := l.length) hx (Nat.le_refl _) hal (.inl rfl) hc
  refine ⟨q, hq, hm, hp, hmd, ?_⟩
  have h12 : q.mode ≠ 12 := by rw [hmd]; exact fun h => h76 ((cnt_76 c).1 h)
  rcases hp.kind with ⟨_, ⟨h1, h2, h3⟩ | ⟨h1, e', h2, h3, h4, h5, h6⟩, _⟩ | h
  · exact ⟨by unfold toN; omega, h1⟩
  · exact absurd (alive_down hal e' (by omega) h3) h5
  · exact absurd h.1 h12
/-! The text of a word. -/
/-- The inside of a Double from a place on, where nothing is to be expanded. -/
inductive DbT (l : List UInt8) (L : List Prt) (e : Nat) : Nat → List UInt8 → Prop
  | stop {x : Nat} : e ≤ x → DbT l L e x []
  | byte {x : Nat} {t : List UInt8} : x < e → findP L x = none → DbT l L e (x + 1) t → DbT l L e x (l.getD x 0 :: t)
  | lone {x : Nat} {q : Prt} {t : List UInt8} : x < e → findP L x = some q → loneB q x = true → DbT l L e (x + 1) t → DbT l L e x (l.getD x 0 :: t)
  | esc {x : Nat} {q : Prt} {t : List UInt8} : x < e → findP L x = some q → ¬ loneB q x = true → q.mode = 13 → DbT l L e (toN q) t → DbT l L e x (escT l q x ++ t)
/-- A text from a place on, where nothing is to be expanded. -/
inductive TxT (l : List UInt8) (L : List Prt) : Nat → List UInt8 → Prop
  | stop {x : Nat} : l.length ≤ x → TxT l L x []
  | byte {x : Nat} {t : List UInt8} : x < l.length → findP L x = none → TxT l L (x + 1) t → TxT l L x (l.getD x 0 :: t)
  | plain {x : Nat} {q : Prt} {t : List UInt8} : x < l.length → findP L x = some q → (loneB q x = true ∨ q.mode = 14) → TxT l L (toN q) t → TxT l L x (sub l x (toN q) ++ t)
  | esc {x : Nat} {q : Prt} {t : List UInt8} : x < l.length → findP L x = some q → ¬ (loneB q x = true ∨ q.mode = 14) → q.mode = 13 → TxT l L (toN q) t → TxT l L x ((if sub l (x + 1) (toN q) = [10] then [] else sub l (x + 1) (toN q)) ++ t)
  | single {x : Nat} {q : Prt} {t : List UInt8} : x < l.length → findP L x = some q → ¬ (loneB q x = true ∨ q.mode = 14) → q.mode = 4 → TxT l L (toN q) t → TxT l L x (sub l (x + 1) (endQ q) ++ t)
  | double {x : Nat} {q : Prt} {d t : List UInt8} : x < l.length → findP L x = some q → ¬ (loneB q x = true ∨ q.mode = 14) → q.mode = 5 → DbT l L (endQ q) (x + 1) d → TxT l L (toN q) t → TxT l L x (d ++ t)
theorem txL_fl (b : List UInt8) : txL (flP b) = b ∧ (flP b).any (·.ex) = false := by
  unfold flP txL
  split
  · rename_i h; subst h; exact ⟨rfl, rfl⟩
  · exact ⟨by simp, rfl⟩
theorem DbT.val {l : List UInt8} {L : List Prt} (hL : PL l L) {e : Nat} (he : e ≤ l.length) {x : Nat} {t : List UInt8} (h : DbT l L e x t) : ∀ (m : Nat) (here : List UInt8), x ≤ l.length → l.length < m + x →
    txL (dblF l L e m x here false) = here ++ t ∧ (dblF l L e m x here false).any (·.ex) = false := by
  induction h with
  | stop h1 =>
    intro m here hx hm
    obtain ⟨m, rfl⟩ : ∃ m', m = m' + 1 := ⟨m - 1, by omega⟩
    unfold dblF
    rw [if_neg (by omega), if_neg (by simp)]
    exact ⟨by simp [txL], rfl⟩
  | @byte x t h1 h2 _ ih =>
    intro m here hx hm
    obtain ⟨m, rfl⟩ : ∃ m', m = m' + 1 := ⟨m - 1, by omega⟩
    unfold dblF
    rw [if_pos h1]
    simp only [h2]
    have := ih m (here ++ [l.getD x 0]) (by omega) (by omega)
    simpa using this
  | @lone x q t h1 h2 h3 _ ih =>
    intro m here hx hm
    obtain ⟨m, rfl⟩ : ∃ m', m = m' + 1 := ⟨m - 1, by omega⟩
    unfold dblF
    rw [if_pos h1]
    simp only [h2]
    rw [if_pos h3]
    have := ih m (here ++ [l.getD x 0]) (by omega) (by omega)
    simpa using this
  | @esc x q t h1 h2 h3 h4 _ ih =>
    intro m here hx hm
    obtain ⟨m, rfl⟩ : ∃ m', m = m' + 1 := ⟨m - 1, by omega⟩
    obtain ⟨_, _, _, hlt, hle, _⟩ := findP_some hL h2
    unfold dblF
    rw [if_pos h1]
    simp only [h2]
    rw [if_neg h3, if_pos h4]
    have := ih m (here ++ escT l q x) (by omega) (by omega)
    simpa using this
theorem TxT.val {l : List UInt8} {L : List Prt} (hL : PL l L) {x : Nat} {t : List UInt8} (h : TxT l L x t) : ∀ (m : Nat) (buf : List UInt8), x ≤ l.length → l.length < m + x →
    txL (pcsF l L m x buf) = buf ++ t ∧ (pcsF l L m x buf).any (·.ex) = false := by
  induction h with
  | stop h1 =>
    intro m buf hx hm
    obtain ⟨m, rfl⟩ : ∃ m', m = m' + 1 := ⟨m - 1, by omega⟩
    unfold pcsF
    rw [if_neg (by omega), List.append_nil]
    exact txL_fl buf
  | @byte x t h1 h2 _ ih =>
    intro m buf hx hm
    obtain ⟨m, rfl⟩ : ∃ m', m = m' + 1 := ⟨m - 1, by omega⟩
    unfold pcsF
    rw [if_pos h1]
    simp only [h2]
    have := ih m (buf ++ [l.getD x 0]) (by omega) (by omega)
    simpa using this
  | @plain x q t h1 h2 h3 _ ih =>
    intro m buf hx hm
    obtain ⟨m, rfl⟩ : ∃ m', m = m' + 1 := ⟨m - 1, by omega⟩
    obtain ⟨_, _, _, hlt, hle, _⟩ := findP_some hL h2
    unfold pcsF
    rw [if_pos h1]
    simp only [h2]
    rw [if_pos h3]
    have := ih m (buf ++ sub l x (toN q)) hle (by omega)
    rw [List.append_assoc] at this
    exact this
  | @esc x q t h1 h2 h3 h4 _ ih =>
    intro m buf hx hm
    obtain ⟨m, rfl⟩ : ∃ m', m = m' + 1 := ⟨m - 1, by omega⟩
    obtain ⟨_, _, _, hlt, hle, _⟩ := findP_some hL h2
    unfold pcsF
    rw [if_pos h1]
    simp only [h2]
    rw [if_neg h3, if_pos h4]
    by_cases hs : sub l (x + 1) (toN q) = [] ∨ sub l (x + 1) (toN q) = [10]
    · rw [if_pos hs]
      have e : (if sub l (x + 1) (toN q) = [10] then [] else sub l (x + 1) (toN q)) = ([] : List UInt8) := by
        rcases hs with hs | hs <;> rw [hs] <;> rfl
      rw [e]
      have := ih m buf hle (by omega)
      simpa using this
    · rw [if_neg hs, if_neg (fun h => hs (.inr h))]
      have := ih m [] hle (by omega)
      have hf := txL_fl buf
      refine ⟨?_, ?_⟩
      · have e : txL (flP buf ++ ⟨false, true, sub l (x + 1) (toN q)⟩ :: pcsF l L m (toN q) []) = txL (flP buf) ++ (sub l (x + 1) (toN q) ++ txL (pcsF l L m (toN q) [])) := by simp [txL]
        rw [e, hf.1, this.1]
        rfl
      · rw [List.any_append, hf.2, List.any_cons, this.2]
        rfl
  | @single x q t h1 h2 h3 h4 _ ih =>
    intro m buf hx hm
    obtain ⟨m, rfl⟩ : ∃ m', m = m' + 1 := ⟨m - 1, by omega⟩
    obtain ⟨_, _, _, hlt, hle, _⟩ := findP_some hL h2
    unfold pcsF
    rw [if_pos h1]
    simp only [h2]
    rw [if_neg h3, if_neg (by omega), if_pos h4]
    have := ih m [] hle (by omega)
    have hf := txL_fl buf
    refine ⟨?_, ?_⟩
    · have e : txL (flP buf ++ ⟨false, true, sub l (x + 1) (endQ q)⟩ :: pcsF l L m (toN q) []) = txL (flP buf) ++ (sub l (x + 1) (endQ q) ++ txL (pcsF l L m (toN q) [])) := by simp [txL]
      rw [e, hf.1, this.1]
      rfl
    · rw [List.any_append, hf.2, List.any_cons, this.2]
      rfl
  | @double x q d t h1 h2 h3 h4 h5 _ ih =>
    intro m buf hx hm
    obtain ⟨m, rfl⟩ : ∃ m', m = m' + 1 := ⟨m - 1, by omega⟩
    obtain ⟨_, _, _, hlt, hle, _⟩ := findP_some hL h2
    unfold pcsF
    rw [if_pos h1]
    simp only [h2]
    rw [if_neg h3, if_neg (by omega), if_neg (by omega), if_pos h4]
    have := ih m [] hle (by omega)
    have hf := txL_fl buf
    have hd := h5.val hL (by unfold endQ; split <;> omega) (l.length + 1) [] (by omega) (by omega)
    refine ⟨?_, ?_⟩
    · have e : txL (flP buf ++ (dblF l L (endQ q) (l.length + 1) (x + 1) [] false ++ pcsF l L m (toN q) [])) = txL (flP buf) ++ (txL (dblF l L (endQ q) (l.length + 1) (x + 1) [] false) ++ txL (pcsF l L m (toN q) [])) := by simp [txL]
      rw [e, hf.1, this.1, hd.1]
      rfl
    · rw [List.any_append, hf.2, List.any_append, this.2, hd.2]
      rfl
theorem DbT.of {l : List UInt8} {L : List Prt} (hL : PL l L) {e : Nat} (he : e ≤ l.length) : ∀ (m x : Nat) (here : List UInt8), x ≤ l.length → l.length < m + x → (dblF l L e m x here false).any (·.ex) = false → ∃ t, DbT l L e x t
  | 0, x, _, h1, h2, _ => by omega
  | m + 1, x, here, h1, h2, h => by
    unfold dblF at h
    by_cases hx : x < e
    · rw [if_pos hx] at h
      cases hf : findP L x with
      | none =>
        simp only [hf] at h
        obtain ⟨t, ht⟩ := DbT.of hL he m (x + 1) _ (by omega) (by omega) h
        exact ⟨_, .byte hx hf ht⟩
      | some q =>
        obtain ⟨_, _, _, hlt, hle, _⟩ := findP_some hL hf
        simp only [hf] at h
        by_cases h3 : loneB q x = true
        · rw [if_pos h3] at h
          obtain ⟨t, ht⟩ := DbT.of hL he m (x + 1) _ (by omega) (by omega) h
          exact ⟨_, .lone hx hf h3 ht⟩
        · rw [if_neg h3] at h
          by_cases h4 : q.mode = 13
          · rw [if_pos h4] at h
            obtain ⟨t, ht⟩ := DbT.of hL he m (toN q) _ hle (by omega) h
            exact ⟨_, .esc hx hf h3 h4 ht⟩
          · rw [if_neg h4, List.any_append, List.any_cons] at h
            simp at h
    · exact ⟨_, .stop (by omega)⟩
theorem TxT.of {l : List UInt8} {L : List Prt} (hL : PL l L) : ∀ (m x : Nat) (buf : List UInt8), x ≤ l.length → l.length < m + x → (pcsF l L m x buf).any (·.ex) = false → ∃ t, TxT l L x t
  | 0, x, _, h1, h2, _ => by omega
  | m + 1, x, buf, h1, h2, h => by
    unfold pcsF at h
    by_cases hx : x < l.length
    · rw [if_pos hx] at h
      cases hf : findP L x with
      | none =>
        simp only [hf] at h
        obtain ⟨t, ht⟩ := TxT.of hL m (x + 1) _ (by omega) (by omega) h
        exact ⟨_, .byte hx hf ht⟩
      | some q =>
        obtain ⟨_, _, _, hlt, hle, _⟩ := findP_some hL hf
        simp only [hf] at h
        by_cases h3 : loneB q x = true ∨ q.mode = 14
        · rw [if_pos h3] at h
          obtain ⟨t, ht⟩ := TxT.of hL m (toN q) _ hle (by omega) h
          exact ⟨_, .plain hx hf h3 ht⟩
        · rw [if_neg h3] at h
          by_cases h4 : q.mode = 13
          · rw [if_pos h4] at h
            by_cases hs : sub l (x + 1) (toN q) = [] ∨ sub l (x + 1) (toN q) = [10]
            · rw [if_pos hs] at h
              obtain ⟨t, ht⟩ := TxT.of hL m (toN q) _ hle (by omega) h
              exact ⟨_, .esc hx hf h3 h4 ht⟩
            · rw [if_neg hs, List.any_append, List.any_cons, Bool.or_eq_false_iff, Bool.or_eq_false_iff] at h
              obtain ⟨t, ht⟩ := TxT.of hL m (toN q) _ hle (by omega) h.2.2
              exact ⟨_, .esc hx hf h3 h4 ht⟩
          · rw [if_neg h4] at h
            by_cases h5 : q.mode = 4
            · rw [if_pos h5, List.any_append, List.any_cons, Bool.or_eq_false_iff, Bool.or_eq_false_iff] at h
              obtain ⟨t, ht⟩ := TxT.of hL m (toN q) _ hle (by omega) h.2.2
              exact ⟨_, .single hx hf h3 h5 ht⟩
            · rw [if_neg h5] at h
              by_cases h6 : q.mode = 5
              · rw [if_pos h6, List.any_append, List.any_append, Bool.or_eq_false_iff, Bool.or_eq_false_iff] at h
                obtain ⟨t, ht⟩ := TxT.of hL m (toN q) _ hle (by omega) h.2.2
                obtain ⟨d, hd⟩ := DbT.of hL (show endQ q ≤ l.length by unfold endQ; split <;> omega) (l.length + 1) (x + 1) [] (by omega) (by omega) h.2.1
                exact ⟨_, .double hx hf h3 h6 hd ht⟩
              · rw [if_neg h6, List.any_append, List.any_cons] at h
                simp at h
    · exact ⟨_, .stop (by omega)⟩
/-- A text has a value just if the relation holds of it. -/
theorem TxT.whole {l t : List UInt8} (h : TxT l (partsL l) 0 t) : txL (pcsL l) = t ∧ (pcsL l).any (·.ex) = false := h.val (pl_parts l) (l.length + 1) [] (by omega) (by omega)
theorem TxT.of_val {l : List UInt8} (h : (pcsL l).any (·.ex) = false) : TxT l (partsL l) 0 (txL (pcsL l)) := by
  obtain ⟨t, ht⟩ := TxT.of (pl_parts l) (l.length + 1) 0 [] (by omega) (by omega) h
  rw [ht.whole.1]
  exact ht
end Go.Proofs.Ytjkiapgboljabaa
