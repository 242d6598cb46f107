/- PartsStack: lists for the walk. -/
import Derived.Test.YtffngggdelmkpaaGreatDoorPl7
import Derived.Test.YtffngggdelmkpaaGreatDoorPk0
import Derived.Test.YtffngggdelmkpaaGreatDoorRefM3
namespace Go.Proofs.YtffngggdelmkpaaGreatDoor
open Go.RowKit
set_option linter.unusedVariables false
set_option linter.unusedSimpArgs false
set_option maxRecDepth 100000
theorem rAt_take (l : List UInt8) (i : Nat) : ∀ k, k ≤ i → rAt (l.take i) k = rAt l k
  | 0, _ => rfl
  | k + 1, h => by
    have e : (l.take i).getD k 0 = l.getD k 0 := by
      rw [List.getD_eq_getElem?_getD, List.getD_eq_getElem?_getD, List.getElem?_take, if_pos (by omega)]
    show rStep _ _ ((l.take i).getD k 0) _ = rStep _ _ (l.getD k 0) _
    rw [e, rAt_take l i k (by omega)]
theorem run_take (l : List UInt8) (k : Nat) (w : World) (hk : k ≤ l.length) (hl : l.length ≤ 900) : Calls Tryz.prog 77 #[.string ((ByteArray.mk l.toArray).extract 0 k)] w (Ro w (rAt l k).1 (rAt l k).2) := by
  have h := run_r (l.take k) w (by simp; omega)
  have e : (l.take k).length = k := by simp; omega
  rw [e, rAt_take l k k (Nat.le_refl _)] at h
  rw [ba_extract, List.drop_zero]
  exact h
/-- The places of the parts with these numbers, dollars left out. -/
def frJ (L : List Prt) (a : List Nat) (j : Nat) : List Int := ((a.take j).filter fun k => !((L.getD k dP).mode == 12)).map fun k => (L.getD k dP).fr
theorem frJ_succ {L : List Prt} {a : List Nat} {j m : Nat} {q : Prt} (h : a[j]? = some m) (hq : L[m]? = some q) : frJ L a (j + 1) = if (q.mode == 12) = true then frJ L a j else frJ L a j ++ [q.fr] := by
  obtain ⟨hj, hm⟩ := List.getElem?_eq_some_iff.1 h
  have hg : L.getD m dP = q := getD_some hq
  unfold frJ
  rw [List.take_succ_eq_append_getElem hj, hm, List.filter_append, List.map_append]
  by_cases hp : (q.mode == 12) = true
  · rw [if_pos hp, List.filter_cons_of_neg (by rw [hg, hp]; simp)]; simp
  · rw [if_neg hp, List.filter_cons_of_pos (by rw [hg]; simpa using hp)]; simp only [List.filter_nil, List.map_cons, List.map_nil, hg]
theorem pkF_map (P : Prt → Bool) (L : List Prt) : ∀ k, k ≤ L.length → (pkF P L k).map (fun k => L.getD k dP) = (L.take k).filter P
  | 0, _ => by simp [pkF]
  | k + 1, hk => by
    have hq : L[k]? = some L[k] := List.getElem?_eq_getElem (by omega)
    rw [pkF_succ P L k _ hq, List.take_succ_eq_append_getElem (by omega), List.filter_append, ← pkF_map P L k (by omega)]
    by_cases hp : P L[k] = true
    · rw [if_pos hp, List.map_append, List.filter_cons_of_pos hp]
      simp only [List.map_cons, List.map_nil, List.filter_nil, getD_some hq]
    · rw [if_neg hp, List.filter_cons_of_neg hp]; simp
theorem frJ_all (P : Prt → Bool) (L : List Prt) : frJ L (pkL P L) (pkL P L).length = ((L.filter P).filter fun q => !(q.mode == 12)).map (·.fr) := by
  unfold frJ
  rw [List.take_of_length_le (Nat.le_refl _)]
  have h := pkF_map P L L.length (Nat.le_refl _)
  rw [List.take_of_length_le (Nat.le_refl _)] at h
  rw [← h]
  unfold pkL
  rw [List.filter_map, List.map_map]
  rfl
theorem arB_iff (x : Int) (q : Prt) : arB x q = true ↔ arP x q := by
  unfold arB arP
  simp
theorem filt_get {α : Type} (p : α → Bool) : ∀ (X : List α) (s : Nat) (x : α), X[s]? = some x → p x = true → (X.filter p)[((X.take s).filter p).length]? = some x ∧ ((X.take (s + 1)).filter p).length = ((X.take s).filter p).length + 1 := by
  intro X s x h hp
  obtain ⟨hs, hx⟩ := List.getElem?_eq_some_iff.1 h
  have e : (X.take (s + 1)).filter p = (X.take s).filter p ++ [x] := by rw [List.take_succ_eq_append_getElem hs, hx, List.filter_append, List.filter_cons_of_pos hp]; rfl
  refine ⟨?_, by rw [e]; simp⟩
  conv => lhs; rw [← List.take_append_drop (s + 1) X, List.filter_append, e]
  simp
theorem filt_no {α : Type} (p : α → Bool) (X : List α) (s : Nat) (x : α) (h : X[s]? = some x) (hp : p x = false) : ((X.take (s + 1)).filter p).length = ((X.take s).filter p).length := by
  obtain ⟨hs, hx⟩ := List.getElem?_eq_some_iff.1 h
  rw [List.take_succ_eq_append_getElem hs, hx, List.filter_append, List.filter_cons_of_neg (by rw [hp]; simp)]
  simp
/-- Is there a dollar at a place among the first k parts? -/
def dolK (L : List Prt) (p : Int) (k : Nat) : Bool := (L.take k).any fun q => q.fr == p && q.mode == 12
theorem dolK_succ {L : List Prt} {p : Int} {k : Nat} {q : Prt} (h : L[k]? = some q) : dolK L p (k + 1) = (dolK L p k || (q.fr == p && q.mode == 12)) := by
  obtain ⟨hk, hq⟩ := List.getElem?_eq_some_iff.1 h
  unfold dolK
  rw [List.take_succ_eq_append_getElem hk, hq, List.any_append]
  simp
theorem dolK_all (L : List Prt) (p : Int) : dolK L p L.length = dolF L p := by unfold dolK dolF; rw [List.take_of_length_le (Nat.le_refl _)]
theorem pkL_mem {P : Prt → Bool} {L : List Prt} {m : Nat} (h : m ∈ pkL P L) : m < L.length := by
  unfold pkL pkF at h
  exact List.mem_range.1 (List.mem_filter.1 h).1
theorem rP_FT (l : List UInt8) (k : Nat) : rP (rAt l k).1 = 0 :: pls (FT l k) := by
  unfold rP
  rw [← List.map_reverse, rAt_rev]
  rfl
end Go.Proofs.YtffngggdelmkpaaGreatDoor
