/- The reference's parts, as a function on lists; they are those of canon. No program is in sight. -/
import Derived.Test.YtjkiapgboljabaaPl07c
namespace Go.Proofs.Ytjkiapgboljabaa
set_option linter.unusedVariables false
set_option linter.unusedSimpArgs false
set_option maxRecDepth 100000
/-! Names and parameters. -/
def letB (c : UInt8) : Bool := decide (clsOf c = 5)
def digB (c : UInt8) : Bool := decide (clsOf c = 6)
def nameB (c : UInt8) : Bool := letB c || digB c
def nameLen (l : List UInt8) : Nat := match l with
  | [] => 0
  | c :: _ => if letB c = true then (l.takeWhile nameB).length else 0
def spcB (c : UInt8) : Bool := [64, 42, 35, 63, 45, 36, 33].contains c
def paramLen (l : List UInt8) : Nat := if 0 < nameLen l then nameLen l else match l with
  | [] => 0
  | c :: _ => if spcB c = true ∨ digB c = true then 1 else 0
def parL (l : List UInt8) (i : Nat) : Nat := paramLen (l.drop i)
/-! What is done with a part at the text's end. -/
def fixTo (n : Int) (q : Prt) : Prt := if q.op = true then { q with to := n } else q
def fin1 (l : List UInt8) (q : Prt) : Prt := if q.mode = 12 then { q with to := q.fr + 1 + (parL l (q.fr + 1).toNat : Int), op := false } else q
def finP (l : List UInt8) (q : Prt) : Prt := fin1 l (fixTo l.length q)
/-- The parts of a text. -/
def partsL (l : List UInt8) : List Prt := (canon l l.length).map (finP l)
theorem fixTo_fr (n : Int) (q : Prt) : (fixTo n q).fr = q.fr := by unfold fixTo; split <;> rfl
theorem fin1_fr (l : List UInt8) (q : Prt) : (fin1 l q).fr = q.fr := by unfold fin1; split <;> rfl
theorem finP_fr (l : List UInt8) (q : Prt) : (finP l q).fr = q.fr := by unfold finP; rw [fin1_fr, fixTo_fr]
/-! The reference. -/
def atR (F : Stk) (p : Int) : Nat := if p ∈ pls F then (pls F).idxOf p + 1 else 0
def scanR (F : Nat → Stk) (fr : Int) (n : Nat) : Nat → Nat → Prt → Prt
  | 0, _, q => q
  | m + 1, k, q => if atR (F k) fr = 0 then { q with to := k, op := false } else scanR F fr n m (k + 1) { q with mode := cnt ((F k).getD (n - 1) (0, 0)).1 }
def upR (n : Nat) (p : Int) : List Prt → Nat → Int → Int
  | [], _, u => u
  | q :: l, k, u => upR n p l (k + 1) (if 1 < n ∧ q.fr = p then (k : Int) else u)
def partR (l : List UInt8) (f : Nat) (out : List Prt) : Prt :=
  fin1 l (scanR (FT l) f (atR (FT l (f + 1)) f) (l.length - f) (f + 1) ⟨0, f, l.length, upR (atR (FT l (f + 1)) f) ((pls (FT l (f + 1))).getD (atR (FT l (f + 1)) f - 2) 0) out 0 (-1), true⟩)
def outR (l : List UInt8) : Nat → List Prt
  | 0 => []
  | f + 1 => outR l f ++ (if atR (FT l (f + 1)) f = 0 then [] else [partR l f (outR l f)])
/-! A part from the byte on that opened it. -/
def evol (l : List UInt8) : Nat → Nat → Prt → Prt
  | 0, _, q => q
  | m + 1, k, q => evol l m (k + 1) (upd (FT l k) k q)
theorem evol_succ (l : List UInt8) : ∀ (m a : Nat) (q : Prt), evol l (m + 1) a q = upd (FT l (a + m)) ((a + m : Nat) : Int) (evol l m a q)
  | 0, a, q => rfl
  | m + 1, a, q => by
    show evol l (m + 1) (a + 1) _ = _
    rw [evol_succ l m (a + 1)]
    rw [show a + 1 + m = a + (m + 1) by omega]
    rfl
theorem evol_fr (l : List UInt8) : ∀ (m a : Nat) (q : Prt), (evol l m a q).fr = q.fr
  | 0, _, _ => rfl
  | m + 1, a, q => by show (evol l m (a + 1) _).fr = _; rw [evol_fr l m, upd_fr]
theorem evol_shut (l : List UInt8) : ∀ (m a : Nat) (q : Prt), q.op = false → evol l m a q = q
  | 0, _, _, _ => rfl
  | m + 1, a, q, h => by
    show evol l m (a + 1) _ = _
    have : upd (FT l a) a q = q := by unfold upd; rw [if_neg (by rw [h]; simp)]
    rw [this, evol_shut l m (a + 1) q h]
theorem flatMap_congr2 {α β : Type} {l : List α} {f g : α → List β} (h : ∀ x ∈ l, f x = g x) : l.flatMap f = l.flatMap g := by
  rw [List.flatMap_def, List.flatMap_def, List.map_congr_left h]
theorem canon_evol (l : List UInt8) : ∀ k, canon l k = (List.range k).flatMap fun f => (newP (FT l (f + 1)) f (canon l f)).map (evol l (k - (f + 1)) (f + 2))
  | 0 => rfl
  | k + 1 => by
    rw [List.range_succ, List.flatMap_append]
    show (canon l k).map _ ++ _ = _
    congr 1
    · conv => lhs; rw [canon_evol l k]
      rw [List.map_flatMap]
      refine flatMap_congr2 fun f hf => ?_
      have hfk := List.mem_range.1 hf
      rw [List.map_map]
      refine List.map_congr_left fun q _ => ?_
      simp only [Function.comp]
      rw [show k + 1 - (f + 1) = (k - (f + 1)) + 1 by omega, evol_succ, show f + 2 + (k - (f + 1)) = k + 1 by omega]
      rfl
    · simp only [List.flatMap_cons, List.flatMap_nil, List.append_nil]
      rw [Nat.sub_self]
      show _ = List.map (fun q => q) _
      rw [List.map_id']
theorem FT_nodup (l : List UInt8) (k : Nat) : (pls (FT l k)).Nodup := by rw [List.nodup_iff_pairwise_ne]; exact (FT_rise l k).1.imp (fun h => by omega)
theorem nodup_idx {P : List Int} (h : P.Nodup) {i j : Nat} {p : Int} (hi : P[i]? = some p) (hj : P[j]? = some p) : i = j := by
  obtain ⟨h1, h2⟩ := List.getElem?_eq_some_iff.1 hi
  obtain ⟨h3, h4⟩ := List.getElem?_eq_some_iff.1 hj
  rw [List.nodup_iff_pairwise_ne] at h
  rcases Nat.lt_trichotomy i j with e | e | e
  · exact absurd (h2.trans h4.symm) (List.pairwise_iff_getElem.1 h i j h1 h3 e)
  · exact e
  · exact absurd (h4.trans h2.symm) (List.pairwise_iff_getElem.1 h j i h3 h1 e)
/-- A frame keeps its number. -/
theorem idx_const (l : List UInt8) (f n : Nat) (h0 : (pls (FT l (f + 1)))[n]? = some (f : Int)) : ∀ k, f + 1 ≤ k → (f : Int) ∈ pls (FT l k) → (pls (FT l k))[n]? = some (f : Int) := by
  intro k hk
  induction k with
  | zero => omega
  | succ k ih =>
    intro hm
    by_cases e : k = f
    · subst e; exact h0
    · obtain ⟨j, A, B, hF, hj, hA, hB⟩ := FT_split l k
      have hmA : (f : Int) ∈ pls A := by
        rw [hF, pls, List.map_append] at hm
        rcases List.mem_append.1 hm with h | h
        · exact h
        · rcases hB with rfl | ⟨c, rfl⟩
          · cases h
          · simp at h; omega
      have hmt := hmA
      rw [hA] at hmt
      have ih' := ih (by omega) (List.mem_of_mem_take hmt)
      obtain ⟨i, hi, hie⟩ := List.mem_take_iff_getElem.1 hmt
      have hij : i = n := nodup_idx (FT_nodup l k) (List.getElem?_eq_some_iff.2 ⟨by omega, hie⟩) ih'
      rw [hF, pls, List.map_append, List.getElem?_append_left (by
        have := congrArg List.length hA
        simp [pls] at this ⊢
        simp [pls] at hi
        omega)]
      rw [show A.map (·.2) = pls A from rfl, hA, List.getElem?_take, if_pos (by omega)]
      exact ih'
theorem findF_at {F : Stk} (h : (pls F).Nodup) {i : Nat} {y : UInt8 × Int} (hi : F[i]? = some y) : findF F y.2 = some y.1 := by
  have hm : y.2 ∈ pls F := List.mem_map.2 ⟨y, List.mem_of_getElem? hi, rfl⟩
  obtain ⟨c, hc, hcm⟩ := findF_some hm
  obtain ⟨j, hj⟩ := List.mem_iff_getElem?.1 hcm
  have e1 : (pls F)[i]? = some y.2 := by rw [List.getElem?_map, hi]; rfl
  have e2 : (pls F)[j]? = some y.2 := by rw [List.getElem?_map, hj]; rfl
  have := nodup_idx h e1 e2
  subst this
  rw [hi] at hj
  injection hj with hj
  rw [hc, hj]
theorem atR_zero {F : Stk} {p : Int} : atR F p = 0 ↔ p ∉ pls F := by unfold atR; split <;> simp_all
theorem atR_some {F : Stk} {p : Int} (h : p ∈ pls F) : (pls F)[atR F p - 1]? = some p ∧ 1 ≤ atR F p := by
  unfold atR
  rw [if_pos h]
  refine ⟨?_, by omega⟩
  rw [Nat.add_sub_cancel, List.getElem?_eq_getElem (List.idxOf_lt_length_of_mem h)]
  exact congrArg some (List.getElem_idxOf (List.idxOf_lt_length_of_mem h))
theorem scan_evol (l : List UInt8) (f n : Nat) (hn : ∀ k, f + 1 ≤ k → (f : Int) ∈ pls (FT l k) → (pls (FT l k))[n - 1]? = some (f : Int)) : ∀ (m k : Nat) (q : Prt), q.op = true → q.fr = f → f + 1 ≤ k →
    scanR (FT l) f n m k { q with to := l.length } = fixTo l.length (evol l m k q)
  | 0, k, q, ho, hf, hk => by unfold scanR evol fixTo; rw [if_pos ho]
  | m + 1, k, q, ho, hf, hk => by
    unfold scanR
    by_cases hm : (f : Int) ∈ pls (FT l k)
    · rw [if_neg (fun h => atR_zero.1 h hm)]
      have h1 := hn k hk hm
      rw [List.getElem?_map] at h1
      cases hy : (FT l k)[n - 1]? with
      | none => rw [hy] at h1; cases h1
      | some y =>
        rw [hy] at h1
        simp at h1
        have h2 := findF_at (FT_nodup l k) hy
        rw [h1] at h2
        have hu : upd (FT l k) k q = { q with mode := cnt y.1 } := by unfold upd; rw [if_pos ho, hf, h2]
        have hg : ((FT l k).getD (n - 1) (0, 0)).1 = y.1 := by rw [List.getD_eq_getElem?_getD, hy]; rfl
        rw [hg]
        show scanR (FT l) f n m (k + 1) { ({ q with mode := cnt y.1 } : Prt) with to := l.length } = fixTo l.length (evol l m (k + 1) (upd (FT l k) k q))
        rw [hu]
        exact scan_evol l f n hn m (k + 1) { q with mode := cnt y.1 } ho hf (by omega)
    · rw [if_pos (atR_zero.2 hm)]
      have hu : upd (FT l k) k q = { q with to := k, op := false } := by unfold upd; rw [if_pos ho, hf, findF_none hm]
      show _ = fixTo l.length (evol l m (k + 1) (upd (FT l k) k q))
      rw [hu, evol_shut _ _ _ _ rfl]
      rfl
theorem upR_not (n : Nat) (p : Int) : ∀ (l : List Prt) (k : Nat) (u : Int), (1 < n → p ∉ frs l) → upR n p l k u = u
  | [], _, _, _ => rfl
  | q :: l, k, u, h => by
    unfold upR
    rw [if_neg (fun hh => h hh.1 (by simp [frs, hh.2]))]
    exact upR_not n p l (k + 1) u (fun hn hm => h hn (by simp only [frs, List.map_cons, List.mem_cons]; exact .inr hm))
theorem upR_idx (n : Nat) (p : Int) (hn : 1 < n) : ∀ (l : List Prt) (k : Nat) (u : Int), (frs l).Nodup → p ∈ frs l → upR n p l k u = ((k + idxP l p : Nat) : Int)
  | [], _, _, _, h => by simp [frs] at h
  | q :: l, k, u, hd, h => by
    unfold upR
    simp only [frs, List.map_cons, List.nodup_cons] at hd
    by_cases e : q.fr = p
    · rw [if_pos ⟨hn, e⟩, upR_not n p l (k + 1) k (fun _ hm => hd.1 (by rw [e]; exact hm))]
      simp [idxP, frs, List.idxOf_cons, e]
    · rw [if_neg (fun hh => e hh.2)]
      have hm : p ∈ frs l := by
        simp only [frs, List.map_cons, List.mem_cons] at h
        rcases h with h | h
        · exact absurd h.symm e
        · exact h
      rw [upR_idx n p hn l (k + 1) u hd.2 hm]
      have : idxP (q :: l) p = idxP l p + 1 := by
        simp only [idxP, frs, List.map_cons, List.idxOf_cons]
        have : (q.fr == p) = false := by simpa using e
        rw [this]; rfl
      rw [this]
      congr 1
      omega
theorem outR_canon (l : List UInt8) : ∀ f, f ≤ l.length → outR l f = (List.range f).flatMap (fun f => (newP (FT l (f + 1)) f (canon l f)).map fun q => finP l (evol l (l.length - (f + 1)) (f + 2) q)) ∧ frs (outR l f) = frs (canon l f)
  | 0, _ => ⟨rfl, rfl⟩
  | f + 1, hf => by
    obtain ⟨ih, ihf⟩ := outR_canon l f (by omega)
    have ci := canon_ci l f
    obtain ⟨j, A, B, hF, hj, hA, hB⟩ := FT_split l f
    have hkP : (f : Int) ∉ pls (FT l f) := fun h => by have := (FT_rise l f).2 _ h; omega
    have hAmem : ∀ p ∈ pls A, p ∈ pls (FT l f) := fun p hp => by rw [hA] at hp; exact List.mem_of_mem_take hp
    rcases hB with rfl | ⟨c, rfl⟩
    · have hno : (f : Int) ∉ pls (FT l (f + 1)) := by rw [hF, List.append_nil]; exact fun h => hkP (hAmem _ h)
      have hnew : newP (FT l (f + 1)) f (canon l f) = [] := newP_none (fun p hp e => hno (e ▸ hp))
      have e : outR l (f + 1) = outR l f := by show outR l f ++ _ = _; rw [if_pos (atR_zero.2 hno), List.append_nil]
      rw [e]
      refine ⟨?_, ?_⟩
      · rw [List.range_succ, List.flatMap_append, ← ih]
        simp [hnew]
      · rw [frs_canon, hnew, ihf]; simp [frs]
    · have hnew := newP_of (k := (f : Int)) (l := canon l f) hF
      have hyes : (f : Int) ∈ pls (FT l (f + 1)) := by rw [hF]; simp [pls]
      have hAl : (f : Int) ∉ pls A := fun h => hkP (hAmem _ h)
      have hn : atR (FT l (f + 1)) f = A.length + 1 := by
        unfold atR
        rw [if_pos hyes, hF, pls, List.map_append, List.idxOf_append, if_neg hAl]
        simp
      have hidx : ∀ k, f + 1 ≤ k → (f : Int) ∈ pls (FT l k) → (pls (FT l k))[atR (FT l (f + 1)) f - 1]? = some (f : Int) := idx_const l f _ (atR_some hyes).1
      have hup : upR (atR (FT l (f + 1)) f) ((pls (FT l (f + 1))).getD (atR (FT l (f + 1)) f - 2) 0) (outR l f) 0 (-1) = upI (FT l (f + 1)) (canon l f) := by
        rw [hn]
        unfold upI
        rw [hF, List.dropLast_concat]
        rcases List.eq_nil_or_concat A with h | ⟨G, y, h⟩
        · subst h
          rw [upR_not _ _ _ _ _ (fun h => by simp at h)]
          rfl
        · have h' : A = G ++ [y] := by simpa using h
          have hyA : y.2 ∈ pls A := by rw [h']; simp [pls]
          rw [h']
          simp only [List.getLast?_append, List.getLast?_singleton, Option.some_or]
          have hp : (pls ((G ++ [y]) ++ [(c, (f : Int))])).getD ((G ++ [y]).length + 1 - 2) 0 = y.2 := by
            rw [List.getD_eq_getElem?_getD]
            simp only [pls, List.map_append, List.map_cons, List.map_nil, List.length_append, List.length_cons, List.length_nil]
            rw [List.getElem?_append_left (by simp), List.getElem?_append_right (by simp)]
            simp
          rw [hp, upR_idx _ _ (by simp) _ _ _ (by rw [ihf, List.nodup_iff_pairwise_ne]; exact ci.rise.imp (fun h => by omega)) (by rw [ihf]; exact ci.sub _ (hAmem _ hyA))]
          rw [Nat.zero_add]
          unfold idxP
          rw [ihf]
      have e : outR l (f + 1) = outR l f ++ [finP l (evol l (l.length - (f + 1)) (f + 2) ⟨cnt c, f, 0, upI (FT l (f + 1)) (canon l f), true⟩)] := by
        show outR l f ++ _ = _
        rw [if_neg (fun h => atR_zero.1 h hyes)]
        congr 2
        unfold partR finP
        congr 1
        rw [hup, show l.length - f = (l.length - (f + 1)) + 1 by omega]
        have hs := scan_evol l f _ hidx (l.length - (f + 1) + 1) (f + 1) ⟨0, f, 0, upI (FT l (f + 1)) (canon l f), true⟩ rfl rfl (Nat.le_refl _)
        rw [hs]
        show fixTo _ (evol l (l.length - (f + 1)) (f + 2) (upd (FT l (f + 1)) ((f + 1 : Nat) : Int) ⟨0, f, 0, upI (FT l (f + 1)) (canon l f), true⟩)) = _
        congr 2
        unfold upd
        rw [if_pos rfl]
        have hfa : findF (FT l (f + 1)) (f : Int) = some c := findF_at (y := (c, (f : Int))) (FT_nodup l (f + 1)) (i := A.length) (by rw [hF]; simp)
        simp only [hfa]
      rw [e]
      refine ⟨?_, ?_⟩
      · rw [List.range_succ, List.flatMap_append, ← ih]
        simp [hnew]
      · rw [frs_canon, hnew, frs, List.map_append, show (outR l f).map (·.fr) = _ from ihf]
        simp only [List.map_cons, List.map_nil, finP_fr, evol_fr]
theorem outR_parts (l : List UInt8) : outR l l.length = partsL l := by
  unfold partsL
  rw [(outR_canon l l.length (Nat.le_refl _)).1]
  conv => rhs; rw [canon_evol]
  rw [List.map_flatMap]
  refine flatMap_congr2 fun f _ => ?_
  rw [List.map_map]
  rfl
end Go.Proofs.Ytjkiapgboljabaa
