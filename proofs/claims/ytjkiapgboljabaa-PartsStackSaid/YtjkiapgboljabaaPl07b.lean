/- The parts of a text as a list that each byte turns: canon; the program's walker comes to it. No program is in sight. -/
import Derived.Test.YtjkiapgboljabaaPl07a
namespace Go.Proofs.Ytjkiapgboljabaa
set_option linter.unusedVariables false
set_option linter.unusedSimpArgs false
set_option maxRecDepth 100000
structure Prt where
  mode : Int
  fr : Int
  to : Int
  up : Int
  op : Bool
def dP : Prt := ⟨0, 0, 0, 0, false⟩
/-- The mode as which a mode counts. -/
def cntM (m : Int) : Int := if m = 3 then 1 else if m = 11 then 9 else m
def cnt (c : UInt8) : Int := cntM (modeOf c)
abbrev frs (l : List Prt) : List Int := l.map (·.fr)
def idxP (l : List Prt) (p : Int) : Nat := (frs l).idxOf p
def findF (F : Stk) (p : Int) : Option UInt8 := (F.find? (fun x => x.2 == p)).map (·.1)
def upd (F : Stk) (k1 : Int) (q : Prt) : Prt :=
  if q.op = true then (match findF F q.fr with
    | some c => { q with mode := cnt c }
    | none => { q with to := k1, op := false })
  else q
def upI (F : Stk) (l : List Prt) : Int := match F.dropLast.getLast? with
  | none => -1
  | some y => (idxP l y.2 : Int)
def newP (F : Stk) (k : Int) (l : List Prt) : List Prt := match F.getLast? with
  | none => []
  | some y => if y.2 = k then [⟨cnt y.1, k, 0, upI F l, true⟩] else []
def canon (l : List UInt8) : Nat → List Prt
  | 0 => []
  | k + 1 => (canon l k).map (upd (FT l (k + 1)) ((k : Int) + 1)) ++ newP (FT l (k + 1)) k (canon l k)
theorem upd_fr (F : Stk) (k1 : Int) (q : Prt) : (upd F k1 q).fr = q.fr := by
  unfold upd
  split
  · split <;> rfl
  · rfl
theorem frs_upd (F : Stk) (k1 : Int) (l : List Prt) : frs (l.map (upd F k1)) = frs l := by
  simp only [frs, List.map_map]
  exact List.map_congr_left fun q _ => upd_fr F k1 q
theorem findF_some {F : Stk} {p : Int} (h : p ∈ pls F) : ∃ c, findF F p = some c ∧ (c, p) ∈ F := by
  obtain ⟨y, hy, he⟩ := List.mem_map.1 h
  cases hf : F.find? (fun x => x.2 == p) with
  | none => have := List.find?_eq_none.1 hf y hy; simp [he] at this
  | some z =>
    have h1 := List.find?_some hf
    have h2 := List.mem_of_find?_eq_some hf
    simp at h1
    obtain ⟨c, q⟩ := z
    simp at h1
    subst h1
    exact ⟨c, by unfold findF; rw [hf]; rfl, h2⟩
theorem findF_none {F : Stk} {p : Int} (h : p ∉ pls F) : findF F p = none := by
  unfold findF
  rw [List.find?_eq_none.2]
  · rfl
  · intro y hy
    simp only [beq_iff_eq]
    intro e
    exact h (List.mem_map.2 ⟨y, hy, e⟩)
/-- The new part, if there is one. -/
theorem newP_of {F : Stk} {k : Int} {l : List Prt} {c : UInt8} {G : Stk} (h : F = G ++ [(c, k)]) : newP F k l = [⟨cnt c, k, 0, upI F l, true⟩] := by
  subst h
  simp [newP]
theorem newP_none {F : Stk} {k : Int} {l : List Prt} (h : ∀ p ∈ pls F, p ≠ k) : newP F k l = [] := by
  unfold newP
  cases hg : F.getLast? with
  | none => rfl
  | some y =>
    have : y ∈ F := List.mem_of_getLast? hg
    simp only
    rw [if_neg (h y.2 (List.mem_map.2 ⟨y, this, rfl⟩))]
/-- How a byte turns the frames: A stay (their letters may turn), the others go, one may come. -/
theorem FT_split (l : List UInt8) (k : Nat) : ∃ (j : Nat) (A B : Stk), FT l (k + 1) = A ++ B ∧ j ≤ (FT l k).length ∧ pls A = (pls (FT l k)).take j ∧ (B = [] ∨ ∃ c, B = [(c, (k : Int))]) := by
  obtain ⟨j, hj, h⟩ := FT_step l k
  refine ⟨j, (FT l (k + 1)).take j, (FT l (k + 1)).drop j, (List.take_append_drop _ _).symm, hj, ?_, ?_⟩
  · rw [pls, List.map_take]
    rcases h with h | h
    · rw [show (FT l (k + 1)).map (·.2) = _ from h, List.take_take, Nat.min_self]
    · rw [show (FT l (k + 1)).map (·.2) = _ from h, List.take_append_of_le_length (by simp [pls]; omega), List.take_take, Nat.min_self]
  · have e : pls ((FT l (k + 1)).drop j) = (pls (FT l (k + 1))).drop j := by simp [pls, List.map_drop]
    rcases h with h | h
    · left
      rw [h, List.drop_take] at e
      simpa [pls] using e
    · right
      rw [h, List.drop_append, List.drop_take] at e
      simp only [List.length_take, pls, List.length_map, Nat.min_eq_left hj, Nat.sub_self, List.take_zero, List.nil_append, List.drop_zero] at e
      match hd : (FT l (k + 1)).drop j, e with
      | [(c, p)], e => simp at e; exact ⟨c, by rw [e]⟩
/-- The list's places rise; those of the frames are in it; open are those alone. -/
structure CI (l : List UInt8) (k : Nat) : Prop where
  rise : (frs (canon l k)).Pairwise (· < ·)
  bnd : ∀ p ∈ frs (canon l k), 0 ≤ p ∧ p < (k : Int)
  opn : ∀ q ∈ canon l k, (q.op = true ↔ q.fr ∈ pls (FT l k))
  sub : ∀ p ∈ pls (FT l k), p ∈ frs (canon l k)
theorem frs_newP (F : Stk) (k : Int) (l : List Prt) : frs (newP F k l) = [] ∨ frs (newP F k l) = [k] := by
  unfold newP
  split
  · exact .inl rfl
  · split
    · exact .inr rfl
    · exact .inl rfl
theorem frs_canon (l : List UInt8) (k : Nat) : frs (canon l (k + 1)) = frs (canon l k) ++ frs (newP (FT l (k + 1)) k (canon l k)) := by
  simp only [canon, frs, List.map_append]
  congr 1
  exact frs_upd _ _ _
theorem upd_op {F : Stk} {k1 : Int} {q : Prt} : (upd F k1 q).op = true ↔ q.op = true ∧ q.fr ∈ pls F := by
  unfold upd
  by_cases ho : q.op = true
  · rw [if_pos ho]
    by_cases hm : q.fr ∈ pls F
    · obtain ⟨c, hc, _⟩ := findF_some hm
      rw [hc]
      simp [ho, hm]
    · rw [findF_none hm]
      simp [hm]
  · rw [if_neg ho]
    simp [ho]
theorem canon_ci (l : List UInt8) : ∀ k, CI l k
  | 0 => ⟨List.Pairwise.nil, by intro p hp; simp [canon, frs] at hp, by intro q hq; simp [canon] at hq, by intro p hp; simp [FT, XT, rAt, pls] at hp⟩
  | k + 1 => by
    have ih := canon_ci l k
    obtain ⟨j, A, B, hF, hj, hA, hB⟩ := FT_split l k
    have hr := (FT_rise l k)
    have hkP : (k : Int) ∉ pls (FT l k) := fun h => by have := hr.2 _ h; omega
    have hkC : (k : Int) ∉ frs (canon l k) := fun h => by have := ih.bnd _ h; omega
    have hAsub : ∀ p ∈ pls A, p ∈ pls (FT l k) := fun p hp => by rw [hA] at hp; exact List.mem_of_mem_take hp
    refine ⟨?_, ?_, ?_, ?_⟩
    · rw [frs_canon]
      rcases frs_newP (FT l (k + 1)) k (canon l k) with h | h
      · rw [h, List.append_nil]; exact ih.rise
      · rw [h, List.pairwise_append]
        exact ⟨ih.rise, List.pairwise_singleton _ _, fun a ha b hb => by simp at hb; subst hb; exact (ih.bnd a ha).2⟩
    · intro p hp
      rw [frs_canon] at hp
      rcases List.mem_append.1 hp with hp | hp
      · have := ih.bnd p hp; omega
      · rcases frs_newP (FT l (k + 1)) k (canon l k) with h | h
        · rw [h] at hp; cases hp
        · rw [h] at hp; simp at hp; omega
    · intro q hq
      simp only [canon] at hq
      rcases List.mem_append.1 hq with hq | hq
      · obtain ⟨q0, hq0, rfl⟩ := List.mem_map.1 hq
        rw [upd_op, upd_fr, ih.opn q0 hq0]
        constructor
        · exact fun h => h.2
        · intro h
          refine ⟨?_, h⟩
          rw [hF, pls, List.map_append] at h
          rcases List.mem_append.1 h with h | h
          · exact hAsub _ h
          · exfalso
            rcases hB with rfl | ⟨c, rfl⟩
            · cases h
            · simp at h
              exact hkC (h ▸ List.mem_map.2 ⟨q0, hq0, rfl⟩)
      · rcases hB with rfl | ⟨c, rfl⟩
        · rw [newP_none] at hq
          · cases hq
          · intro p hp e
            subst e
            rw [hF, List.append_nil] at hp
            exact hkP (hAsub _ hp)
        · rw [newP_of hF] at hq
          simp at hq
          subst hq
          simp [hF, pls]
    · intro p hp
      rw [frs_canon]
      rw [hF, pls, List.map_append] at hp
      rcases List.mem_append.1 hp with hp | hp
      · exact List.mem_append_left _ (ih.sub p (hAsub p hp))
      · rcases hB with rfl | ⟨c, rfl⟩
        · cases hp
        · rw [newP_of hF]
          exact List.mem_append_right _ (by simpa [frs] using hp)
end Go.Proofs.Ytjkiapgboljabaa
