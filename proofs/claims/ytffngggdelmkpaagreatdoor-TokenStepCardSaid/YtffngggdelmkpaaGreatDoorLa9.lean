/- Plain functions of chapters 5 and 9: operators, lines, documents, blanks, tokens, as the program and as the reference have them. No program is in sight. -/
import Derived.Test.YtffngggdelmkpaaGreatDoorPl8
import Derived.Test.YtffngggdelmkpaaGreatDoorPl6
namespace Go.Proofs.YtffngggdelmkpaaGreatDoor
set_option linter.unusedVariables false
set_option linter.unusedSimpArgs false
set_option maxRecDepth 100000
/-! Operators. -/
def opTx : Nat → List UInt8
  | 1 => [38, 38] | 2 => [124, 124] | 3 => [59, 59] | 4 => [60, 60] | 5 => [60, 60, 45] | 6 => [62, 62] | 7 => [60, 38] | 8 => [62, 38] | 9 => [60, 62]
  | 10 => [62, 124] | 11 => [60] | 12 => [62] | 13 => [38] | 14 => [59] | 15 => [124] | 16 => [40] | 17 => [41] | _ => []
def opFrom (w : List UInt8) : Nat → Nat → Nat
  | 0, _ => 0
  | m + 1, k => if opTx k = w then k else opFrom w m (k + 1)
/-- The operator whose text it is. -/
def opOf (w : List UInt8) : Nat := if w = [] then 0 else opFrom w 17 1
/-- The longest operator of so many bytes at most, and its length. -/
def opN (d : List UInt8) : Nat → Nat × Nat
  | 0 => (0, 0)
  | n + 1 => if opOf (d.take (n + 1)) ≠ 0 then (opOf (d.take (n + 1)), n + 1) else opN d n
def opAt (l : List UInt8) (x : Nat) : Nat × Nat := if clsOf (l.getD x 0) ≠ 3 then (0, 0) else opN (l.drop x) (min 3 (l.length - x))
/-- The reference's. -/
def opBest (d : List UInt8) : Nat → Nat
  | 0 => 0
  | k + 1 => if (opTx (k + 1)).isPrefixOf d = true ∧ (opTx (opBest d k)).length < (opTx (k + 1)).length then k + 1 else opBest d k
/-- Other bytes than those of operators are all alike. -/
def alpha : List UInt8 := [38, 124, 59, 60, 62, 45, 40, 41]
def nrm (c : UInt8) : UInt8 := if alpha.contains c then c else 0
theorem opTx_alpha : ∀ k, ∀ c ∈ opTx k, c ∈ alpha := by
  intro k
  by_cases h : k < 18
  · have : ((List.range 18).all fun k => (opTx k).all fun c => alpha.contains c) = true := by decide +kernel
    have h2 := List.all_eq_true.1 this k (List.mem_range.2 h)
    intro c hc
    have := List.all_eq_true.1 h2 c hc
    simpa using this
  · intro c hc
    have : opTx k = [] := by unfold opTx; split <;> first | omega | rfl
    rw [this] at hc
    cases hc
theorem nrm_eq {c d : UInt8} (h : c ∈ alpha) : c = nrm d ↔ c = d := by
  unfold nrm
  constructor
  · intro e
    split at e
    · exact e
    · subst e; exact absurd h (by decide)
  · intro e
    subst e
    rw [if_pos (by simpa using h)]
theorem map_nrm : ∀ (t w : List UInt8), (∀ c ∈ t, c ∈ alpha) → (t = w.map nrm ↔ t = w)
  | [], [], _ => by simp
  | [], _ :: _, _ => by simp
  | _ :: _, [], _ => by simp
  | a :: t, b :: w, h => by
    have h1 := map_nrm t w (fun c hc => h c (List.mem_cons_of_mem _ hc))
    have h2 := nrm_eq (d := b) (h a List.mem_cons_self)
    simp only [List.map_cons, List.cons.injEq, h1, h2]
theorem pre_nrm : ∀ (t w : List UInt8), (∀ c ∈ t, c ∈ alpha) → t.isPrefixOf (w.map nrm) = t.isPrefixOf w
  | [], _, _ => by simp
  | _ :: _, [], _ => rfl
  | a :: t, b :: w, h => by
    have h1 := pre_nrm t w (fun c hc => h c (List.mem_cons_of_mem _ hc))
    have h2 := nrm_eq (d := b) (h a List.mem_cons_self)
    simp only [List.map_cons, List.isPrefixOf, h1]
    congr 1
    by_cases e : a = b
    · subst e; simp [h2]
    · have : ¬ a = nrm b := fun h => e (h2.1 h)
      rw [beq_eq_false_iff_ne.2 e, beq_eq_false_iff_ne.2 this]
theorem opFrom_nrm (w : List UInt8) : ∀ m k, opFrom (w.map nrm) m k = opFrom w m k
  | 0, _ => rfl
  | m + 1, k => by
    unfold opFrom
    rw [opFrom_nrm w m]
    by_cases e : opTx k = w
    · rw [if_pos e, if_pos ((map_nrm _ _ (opTx_alpha k)).2 e)]
    · rw [if_neg e, if_neg (fun h => e ((map_nrm _ _ (opTx_alpha k)).1 h))]
theorem opOf_nrm (w : List UInt8) : opOf (w.map nrm) = opOf w := by
  unfold opOf
  rw [opFrom_nrm]
  by_cases e : w = []
  · subst e; rfl
  · rw [if_neg e, if_neg (by simpa using e)]
theorem opN_nrm (d : List UInt8) : ∀ n, opN (d.map nrm) n = opN d n
  | 0 => rfl
  | n + 1 => by
    unfold opN
    rw [← List.map_take, opOf_nrm, opN_nrm d n]
theorem opBest_nrm (d : List UInt8) : ∀ k, opBest (d.map nrm) k = opBest d k
  | 0 => rfl
  | k + 1 => by
    unfold opBest
    rw [opBest_nrm d k, pre_nrm _ _ (opTx_alpha _)]
theorem opTx_len (k : Nat) : (opTx k).length ≤ 3 := by
  unfold opTx
  split <;> simp
theorem pre_take (t w : List UInt8) (n : Nat) (h : t.length ≤ n) : t.isPrefixOf (w.take n) = t.isPrefixOf w := by
  induction t generalizing w n with
  | nil => simp
  | cons a t ih =>
    cases w with
    | nil => simp
    | cons b w =>
      cases n with
      | zero => simp at h
      | succ n => simp only [List.take_succ_cons, List.isPrefixOf]; rw [ih w n (by simpa using h)]
theorem opBest_take (d : List UInt8) : ∀ k, opBest (d.take 3) k = opBest d k
  | 0 => rfl
  | k + 1 => by
    unfold opBest
    rw [opBest_take d k, pre_take _ _ _ (opTx_len _)]
theorem opN_take (d : List UInt8) (m : Nat) : ∀ n, n ≤ m → opN (d.take m) n = opN d n
  | 0, _ => rfl
  | n + 1, h => by
    unfold opN
    rw [opN_take d m n (by omega), List.take_take, Nat.min_eq_left h]
/-- Both ways of finding an operator come to the same. -/
def opGood (d : List UInt8) : Bool := (opBest d 17 == (opN d (min 3 d.length)).1) && ((opTx (opN d (min 3 d.length)).1).length == (opN d (min 3 d.length)).2) && (clsOf (d.getD 0 0) == 3 || opBest d 17 == 0) && (clsOf (d.getD 0 0) != 3 || (opN d (min 3 d.length)).2 != 0)
def alpha0 : List UInt8 := 0 :: alpha
theorem opGood_one : (alpha0.all fun a => opGood [a]) = true := by decide +kernel
theorem opGood_two : (alpha0.all fun a => alpha0.all fun b => opGood [a, b]) = true := by decide +kernel
theorem opGood_three : (alpha0.all fun a => alpha0.all fun b => alpha0.all fun c => opGood [a, b, c]) = true := by decide +kernel
theorem nrm_mem (c : UInt8) : nrm c ∈ alpha0 := by
  unfold nrm
  split
  · rename_i h; exact List.mem_cons_of_mem _ (by simpa using h)
  · exact List.mem_cons_self
theorem cls_nrm (c : UInt8) : (clsOf (nrm c) == 3) = (clsOf c == 3) := by
  have := byte_all (fun c => (clsOf (nrm c) == 3) == (clsOf c == 3)) (by decide +kernel) c
  simpa using this
theorem opGood_nrm (d : List UInt8) (hd : d ≠ []) (h : opGood (d.map nrm) = true) : opGood d = true := by
  unfold opGood at h ⊢
  have e : (d.map nrm).getD 0 0 = nrm (d.getD 0 0) := by
    cases d with
    | nil => exact absurd rfl hd
    | cons a r => rfl
  rw [opBest_nrm, List.length_map, opN_nrm, e, cls_nrm] at h
  have e2 : (clsOf (nrm (d.getD 0 0)) != 3) = (clsOf (d.getD 0 0) != 3) := by unfold bne; rw [cls_nrm]
  rw [e2] at h
  exact h
theorem opGood_all (d : List UInt8) (hd : d ≠ []) : opGood d = true := by
  have hs : opGood (d.take 3) = true := by
    refine opGood_nrm _ (by cases d <;> simp_all) ?_
    match d, hd with
    | [a], _ => exact List.all_eq_true.1 opGood_one _ (nrm_mem a)
    | [a, b], _ => exact List.all_eq_true.1 (List.all_eq_true.1 opGood_two _ (nrm_mem a)) _ (nrm_mem b)
    | a :: b :: c :: r, _ => exact List.all_eq_true.1 (List.all_eq_true.1 (List.all_eq_true.1 opGood_three _ (nrm_mem a)) _ (nrm_mem b)) _ (nrm_mem c)
  unfold opGood at hs ⊢
  have e : (d.take 3).getD 0 0 = d.getD 0 0 := by cases d <;> rfl
  have e2 : min 3 (d.take 3).length = min 3 d.length := by simp
  rw [opBest_take, e2, opN_take _ _ _ (by omega), e] at hs
  exact hs
theorem op_same (l : List UInt8) (x : Nat) (hx : x < l.length) : opBest (l.drop x) 17 = (opAt l x).1 ∧ (opTx (opAt l x).1).length = (opAt l x).2 ∧ (0 < (opAt l x).2 ↔ clsOf (l.getD x 0) = 3) := by
  have hd : l.drop x ≠ [] := by intro h; have := congrArg List.length h; simp at this; omega
  have h := opGood_all _ hd
  have e : (l.drop x).getD 0 0 = l.getD x 0 := by simp [List.getD_eq_getElem?_getD]
  unfold opGood at h
  rw [e, List.length_drop] at h
  simp only [Bool.and_eq_true, beq_iff_eq, Bool.or_eq_true, bne_iff_ne] at h
  obtain ⟨⟨⟨h1, h2⟩, h3⟩, h4⟩ := h
  unfold opAt
  by_cases hc : clsOf (l.getD x 0) = 3
  · rw [if_neg (fun h => h hc)]
    refine ⟨h1, h2, fun _ => hc, fun _ => ?_⟩
    rcases h4 with h4 | h4
    · exact absurd hc h4
    · omega
  · rw [if_pos hc]
    refine ⟨?_, rfl, fun h => by simp at h, fun h => absurd h hc⟩
    rcases h3 with h3 | h3
    · exact absurd h3 hc
    · exact h3
/-! Lines and documents. -/
def lineN (l : List UInt8) (x : Nat) : Nat := x + ((l.drop x).takeWhile fun c => c.toNat != 10).length
def tabT (t : Bool) (b : List UInt8) : List UInt8 := if t = true then b.dropWhile (fun c => c.toNat == 9) else b
def lineE (l : List UInt8) (x : Nat) : Nat := if lineN l x < l.length then lineN l x + 1 else lineN l x
def hereF (l w : List UInt8) (t : Bool) : Nat → Nat → Nat × Bool
  | 0, x => (x, false)
  | m + 1, x => if x < l.length then (if tabT t (sub l x (lineN l x)) = w then (lineE l x, true) else hereF l w t m (lineE l x)) else (x, false)
def hereL (l : List UInt8) (x : Nat) (w : List UInt8) (t : Bool) : Nat × Bool := hereF l w t (l.length - x) x
theorem lineN_le (l : List UInt8) (x : Nat) (h : x ≤ l.length) : x ≤ lineN l x ∧ lineN l x ≤ l.length := by
  unfold lineN
  have := (List.takeWhile_prefix (l := l.drop x) (fun c => c.toNat != 10)).length_le
  simp at this
  omega
theorem lineE_le (l : List UInt8) (x : Nat) (h : x < l.length) : x < lineE l x ∧ lineE l x ≤ l.length := by
  have h1 := lineN_le l x (by omega)
  unfold lineE
  split
  · omega
  · constructor
    · have : lineN l x = l.length := by omega
      omega
    · omega
theorem hereF_fuel (l w : List UInt8) (t : Bool) : ∀ (m m' x : Nat), l.length - x ≤ m → l.length - x ≤ m' → hereF l w t m x = hereF l w t m' x
  | 0, m', x, h, h' => by
    cases m' with
    | zero => rfl
    | succ m' => unfold hereF; rw [if_neg (by omega)]
  | m + 1, 0, x, h, h' => by unfold hereF; rw [if_neg (by omega)]
  | m + 1, m' + 1, x, h, h' => by
    unfold hereF
    by_cases hx : x < l.length
    · have := lineE_le l x hx
      rw [if_pos hx, if_pos hx, hereF_fuel l w t m m' (lineE l x) (by omega) (by omega)]
    · rw [if_neg hx, if_neg hx]
theorem hereL_eq (l : List UInt8) (x : Nat) (w : List UInt8) (t : Bool) : hereL l x w t = if x < l.length then (if tabT t (sub l x (lineN l x)) = w then (lineE l x, true) else hereL l (lineE l x) w t) else (x, false) := by
  unfold hereL
  by_cases hx : x < l.length
  · have := lineE_le l x hx
    obtain ⟨m, hm⟩ : ∃ m, l.length - x = m + 1 := ⟨l.length - x - 1, by omega⟩
    rw [hm]
    show (if x < l.length then _ else _) = _
    rw [if_pos hx, if_pos hx, hereF_fuel l w t m (l.length - lineE l x) (lineE l x) (by omega) (Nat.le_refl _)]
  · rw [if_neg hx, show l.length - x = 0 by omega]; rfl
theorem hereL_le (l w : List UInt8) (t : Bool) : ∀ (m x : Nat), l.length - x = m → x < l.length → x < (hereL l x w t).1 ∧ (hereL l x w t).1 ≤ l.length ∧ ((hereL l x w t).2 = false → (hereL l x w t).1 = l.length) := by
  intro m
  induction m using Nat.strongRecOn with
  | _ m ih =>
    intro x hm hx
    rw [hereL_eq, if_pos hx]
    have := lineE_le l x hx
    by_cases hw : tabT t (sub l x (lineN l x)) = w
    · rw [if_pos hw]; exact ⟨this.1, this.2, fun h => by cases h⟩
    · rw [if_neg hw]
      by_cases hy : lineE l x < l.length
      · have h2 := ih (l.length - lineE l x) (by omega) (lineE l x) rfl hy
        exact ⟨by omega, h2.2.1, h2.2.2⟩
      · rw [hereL_eq, if_neg hy]
        exact ⟨this.1, this.2, fun _ => by show lineE l x = _; omega⟩
/-! Blanks and digits. -/
def blankB (c : UInt8) : Bool := c.toNat == 32 || c.toNat == 9
def contB (l : List UInt8) (x : Nat) : Bool := x + 1 < l.length && (l.getD x 0).toNat == 92 && (l.getD (x + 1) 0).toNat == 10
def blankF (l : List UInt8) : Nat → Nat → Nat
  | 0, x => x
  | m + 1, x => if x < l.length then (if blankB (l.getD x 0) = true then blankF l m (x + 1) else if contB l x = true then blankF l m (x + 2) else x) else x
def blankL (l : List UInt8) (x : Nat) : Nat := blankF l (l.length - x) x
theorem blankF_fuel (l : List UInt8) : ∀ (m m' x : Nat), l.length - x ≤ m → l.length - x ≤ m' → blankF l m x = blankF l m' x
  | 0, m', x, h, h' => by
    cases m' with
    | zero => rfl
    | succ m' => unfold blankF; rw [if_neg (by omega)]
  | m + 1, 0, x, h, h' => by unfold blankF; rw [if_neg (by omega)]
  | m + 1, m' + 1, x, h, h' => by
    unfold blankF
    rw [blankF_fuel l m m' (x + 1) (by omega) (by omega), blankF_fuel l m m' (x + 2) (by omega) (by omega)]
theorem blankL_eq (l : List UInt8) (x : Nat) : blankL l x = if x < l.length then (if blankB (l.getD x 0) = true then blankL l (x + 1) else if contB l x = true then blankL l (x + 2) else x) else x := by
  unfold blankL
  by_cases hx : x < l.length
  · obtain ⟨m, hm⟩ : ∃ m, l.length - x = m + 1 := ⟨l.length - x - 1, by omega⟩
    rw [hm]
    show (if x < l.length then _ else _) = _
    rw [if_pos hx, if_pos hx, blankF_fuel l m (l.length - (x + 1)) (x + 1) (by omega) (Nat.le_refl _), blankF_fuel l m (l.length - (x + 2)) (x + 2) (by omega) (Nat.le_refl _)]
  · rw [if_neg hx, show l.length - x = 0 by omega]; rfl
theorem blankL_le (l : List UInt8) : ∀ (m x : Nat), l.length - x = m → x ≤ l.length → x ≤ blankL l x ∧ blankL l x ≤ l.length := by
  intro m
  induction m using Nat.strongRecOn with
  | _ m ih =>
    intro x hm hx
    rw [blankL_eq]
    by_cases hl : x < l.length
    · rw [if_pos hl]
      split
      · have := ih (l.length - (x + 1)) (by omega) (x + 1) rfl (by omega); omega
      · split
        · rename_i hc
          have hc2 : x + 1 < l.length := by unfold contB at hc; simp at hc; exact hc.1.1
          have := ih (l.length - (x + 2)) (by omega) (x + 2) rfl (by omega); omega
        · omega
    · rw [if_neg hl]; omega
theorem blankL_gt (l : List UInt8) (x : Nat) (hx : x < l.length) : x < blankL l x ↔ blankB (l.getD x 0) = true ∨ contB l x = true := by
  rw [blankL_eq, if_pos hx]
  split
  · rename_i h
    have := blankL_le l _ (x + 1) rfl (by omega)
    exact ⟨fun _ => .inl h, fun _ => by omega⟩
  · rename_i h
    split
    · rename_i hc
      have hc2 : x + 1 < l.length := by unfold contB at hc; simp at hc; exact hc.1.1
      have := blankL_le l _ (x + 2) rfl (by omega)
      exact ⟨fun _ => .inr hc, fun _ => by omega⟩
    · rename_i hc
      exact ⟨fun h2 => by omega, fun h2 => by rcases h2 with h2 | h2; exact absurd h2 h; exact absurd h2 hc⟩
abbrev digN (l : List UInt8) (x : Nat) : Nat := spanL digB l x
def numB (l : List UInt8) (x : Nat) : Bool := decide (0 < digN l x) && decide (x + digN l x < l.length) && ((l.getD (x + digN l x) 0).toNat == 60 || (l.getD (x + digN l x) 0).toNat == 62)
/-! Tokens. -/
structure Tk where
  kd : Nat
  fr : Nat
  to : Nat
  op : Bool
abbrev Dl := List UInt8 × Bool
structure Lx where
  aw : Int
  pd : List Dl
  bd : Bool
def shutB (w : List UInt8) : Bool := decide (clo (rAt w w.length).1 = [])
/-- The token at a place that is in no document. -/
def plainL (l : List UInt8) (x : Nat) : Tk :=
  if blankB (l.getD x 0) = true ∨ contB l x = true then ⟨1, x, blankL l x, false⟩
  else if (l.getD x 0).toNat = 10 then ⟨2, x, x + 1, false⟩
  else if (l.getD x 0).toNat = 35 then ⟨3, x, lineN l x, false⟩
  else if 0 < (opAt l x).2 then ⟨4, x, x + (opAt l x).2, false⟩
  else if numB l x = true then ⟨5, x, x + digN l x, false⟩
  else ⟨6, x, x + endL l x, !shutB (sub l x (x + endL l x))⟩
/-- The lexing behind a token that is in no document. -/
def behindL (t : List UInt8) (k : Nat) (X : Lx) : Lx :=
  if k = 1 then ⟨X.aw, X.pd, false⟩
  else if k = 2 then ⟨0, X.pd, !X.pd.isEmpty⟩
  else if k = 4 then ⟨if opOf t = 4 ∨ opOf t = 5 then (opOf t : Int) else 0, X.pd, false⟩
  else if k = 6 then ⟨0, if X.aw ≠ 0 then X.pd ++ [(txL (pcsL t), decide (X.aw = 5))] else X.pd, false⟩
  else ⟨0, X.pd, false⟩
def docL (l : List UInt8) (x : Nat) (X : Lx) (d : Dl) (r : List Dl) : Tk × Lx :=
  if (hereL l x d.1 d.2).2 = true then (⟨7, x, (hereL l x d.1 d.2).1, false⟩, ⟨X.aw, r, !r.isEmpty⟩) else (⟨7, x, (hereL l x d.1 d.2).1, true⟩, X)
def stepL (l : List UInt8) (x : Nat) (X : Lx) : Tk × Lx :=
  match X.bd, X.pd with
  | true, d :: r => docL l x X d r
  | _, _ => (plainL l x, behindL (sub l x (plainL l x).to) (plainL l x).kd X)
def lexF (l : List UInt8) : Nat → Nat → Lx → List Tk × Lx
  | 0, _, X => ([], X)
  | m + 1, x, X => if x < l.length then ((stepL l x X).1 :: (lexF l m (stepL l x X).1.to (stepL l x X).2).1, (lexF l m (stepL l x X).1.to (stepL l x X).2).2) else ([], X)
def lx0 : Lx := ⟨0, [], false⟩
def lexL (l : List UInt8) : List Tk × Lx := lexF l (l.length + 1) 0 lx0
end Go.Proofs.YtffngggdelmkpaaGreatDoor
/- A token hangs on two bytes behind it, at most: of two texts with one beginning the tokens that end two bytes ahead of its end are the same. No program is in sight. -/
namespace Go.Proofs.YtffngggdelmkpaaGreatDoor
set_option linter.unusedVariables false
set_option linter.unusedSimpArgs false
set_option maxRecDepth 100000
theorem sub_take' (l : List UInt8) (x n : Nat) (h : x ≤ l.length) : sub l x (x + n) = (l.drop x).take n := by unfold sub; rw [List.drop_take]; congr 1; omega
/-! Runs of bytes. -/
theorem getD_drop (l : List UInt8) (x i : Nat) : (l.drop x).getD i 0 = l.getD (x + i) 0 := by simp [List.getD_eq_getElem?_getD]
theorem tw_stop (p : UInt8 → Bool) : ∀ (m : List UInt8), (m.takeWhile p).length < m.length → p (m.getD (m.takeWhile p).length 0) = false
  | [], h => by simp at h
  | b :: m, h => by
    by_cases hb : p b = true
    · rw [List.takeWhile_cons, if_pos hb] at h ⊢
      exact tw_stop p m (by simpa using h)
    · rw [List.takeWhile_cons, if_neg hb]
      simpa using hb
theorem tw_uniq (p : UInt8 → Bool) : ∀ (m : List UInt8) (k : Nat), (∀ i, i < k → p (m.getD i 0) = true) → k < m.length → p (m.getD k 0) = false → (m.takeWhile p).length = k
  | [], k, _, h, _ => by simp at h
  | b :: m, 0, _, _, h => by
    have hb : p b = false := h
    rw [List.takeWhile_cons, if_neg (by rw [hb]; decide)]
    rfl
  | b :: m, k + 1, h1, h2, h3 => by
    have hb : p b = true := h1 0 (by omega)
    rw [List.takeWhile_cons, if_pos hb, List.length_cons, tw_uniq p m k (fun i hi => h1 (i + 1) (by omega)) (by simpa using h2) h3]
theorem span_all (p : UInt8 → Bool) (l : List UInt8) (x i : Nat) (h : i < spanL p l x) : p (l.getD (x + i) 0) = true := by
  rw [← getD_drop]; exact tw_byte p (l.drop x) i h
theorem span_stop (p : UInt8 → Bool) (l : List UInt8) (x : Nat) (h : x + spanL p l x < l.length) : p (l.getD (x + spanL p l x) 0) = false := by
  rw [← getD_drop]
  exact tw_stop p (l.drop x) (by have : spanL p l x = ((l.drop x).takeWhile p).length := rfl; rw [List.length_drop]; omega)
theorem span_uniq (p : UInt8 → Bool) (l : List UInt8) (x k : Nat) (h1 : ∀ i, i < k → p (l.getD (x + i) 0) = true) (h2 : x + k < l.length) (h3 : p (l.getD (x + k) 0) = false) : spanL p l x = k :=
  tw_uniq p (l.drop x) k (fun i hi => by rw [getD_drop]; exact h1 i hi) (by rw [List.length_drop]; omega) (by rw [getD_drop]; exact h3)
theorem lineN_span (l : List UInt8) (x : Nat) : lineN l x = x + spanL (fun c => c.toNat != 10) l x := rfl
/-! Two texts with one beginning. -/
structure Ag (n : Nat) (l l' : List UInt8) : Prop where
  h : n ≤ l.length
  h' : n ≤ l'.length
  e : ∀ i, i < n → l.getD i 0 = l'.getD i 0
theorem Ag.symm {n : Nat} {l l' : List UInt8} (a : Ag n l l') : Ag n l' l := ⟨a.h', a.h, fun i hi => (a.e i hi).symm⟩
theorem Ag.app (a b c : List UInt8) : Ag a.length (a ++ b) (a ++ c) := ⟨by simp, by simp, fun i hi => by rw [List.getD_eq_getElem?_getD, List.getD_eq_getElem?_getD, List.getElem?_append_left hi, List.getElem?_append_left hi]⟩
theorem Ag.take {n : Nat} {l l' : List UInt8} (a : Ag n l l') {y : Nat} (hy : y ≤ n) : l.take y = l'.take y := by
  refine List.ext_getElem? fun i => ?_
  rw [List.getElem?_take, List.getElem?_take]
  split
  · rename_i hi
    have := a.e i (by omega)
    rw [List.getD_eq_getElem?_getD, List.getD_eq_getElem?_getD, List.getElem?_eq_getElem (by have := a.h; omega), List.getElem?_eq_getElem (by have := a.h'; omega)] at this
    rw [List.getElem?_eq_getElem (by have := a.h; omega), List.getElem?_eq_getElem (by have := a.h'; omega)]
    exact congrArg some this
  · rfl
theorem Ag.sub {n : Nat} {l l' : List UInt8} (a : Ag n l l') {x y : Nat} (hy : y ≤ n) : sub l x y = sub l' x y := by unfold Go.Proofs.YtffngggdelmkpaaGreatDoor.sub; rw [a.take hy]
theorem Ag.span {n : Nat} {l l' : List UInt8} (a : Ag n l l') {p : UInt8 → Bool} {x : Nat} (h : x + spanL p l x < n) : spanL p l' x = spanL p l x := by
  have h1 := a.h
  have h2 := a.h'
  refine span_uniq p l' x _ (fun i hi => ?_) (by omega) ?_
  · rw [← a.e _ (by omega)]; exact span_all p l x i hi
  · rw [← a.e _ (by omega)]; exact span_stop p l x (by omega)
theorem Ag.line {n : Nat} {l l' : List UInt8} (a : Ag n l l') {x : Nat} (h : lineN l x < n) : lineN l' x = lineN l x := by
  rw [lineN_span, lineN_span] at *
  rw [a.span h]
theorem Ag.here {n : Nat} {l l' : List UInt8} (a : Ag n l l') (w : List UInt8) (t : Bool) : ∀ (m x : Nat), l.length - x = m → x < l.length → (hereL l x w t).1 < n → hereL l' x w t = hereL l x w t := by
  intro m
  induction m using Nat.strongRecOn with
  | _ m ih =>
    intro x hm hx h
    have h1 := a.h
    have h2 := a.h'
    have hle := hereL_le l w t _ x rfl hx
    have hle2 := lineE_le l x hx
    have hln := lineN_le l x (by omega)
    have hnext : lineE l x ≤ (hereL l x w t).1 := by
      rw [hereL_eq, if_pos hx]
      split
      · exact Nat.le_refl _
      · by_cases hy : lineE l x < l.length
        · exact Nat.le_of_lt (hereL_le l w t _ (lineE l x) rfl hy).1
        · rw [hereL_eq, if_neg hy]; exact Nat.le_refl _
    have hlt : lineN l x < l.length := by
      refine Nat.lt_of_not_le fun hh => ?_
      have : lineE l x = lineN l x := by unfold lineE; rw [if_neg (by omega)]
      omega
    have hE : lineE l x = lineN l x + 1 := by unfold lineE; rw [if_pos hlt]
    have hL := a.line (x := x) (by omega)
    have hE' : lineE l' x = lineE l x := by unfold lineE; rw [hL, if_pos hlt, if_pos (by omega)]
    have h0 := h
    have hxl : x < l'.length := by omega
    have hsub := a.sub (x := x) (y := lineN l x) (by omega)
    rw [hereL_eq] at h
    rw [hereL_eq l' x, hereL_eq l x, if_pos hx, if_pos hxl, hL, hE', ← hsub]
    rw [if_pos hx] at h
    split
    · rfl
    · rename_i hw
      rw [if_neg hw] at h
      exact ih (l.length - lineE l x) (by omega) (lineE l x) rfl (by omega) h
theorem Ag.cont {n : Nat} {l l' : List UInt8} (a : Ag n l l') {x : Nat} (h : x + 1 < n) : contB l' x = contB l x := by
  have h1 := a.h
  have h2 := a.h'
  unfold contB
  rw [a.e x (by omega), a.e (x + 1) h, decide_eq_true (show x + 1 < l.length by omega), decide_eq_true (show x + 1 < l'.length by omega)]
theorem Ag.blank {n : Nat} {l l' : List UInt8} (a : Ag n l l') : ∀ (m x : Nat), l.length - x = m → x ≤ l.length → blankL l x + 2 ≤ n → blankL l' x = blankL l x := by
  intro m
  induction m using Nat.strongRecOn with
  | _ m ih =>
    intro x hm hx h
    have h1 := a.h
    have h2 := a.h'
    have hle := blankL_le l _ x rfl hx
    have hx1 : x < l.length := by omega
    have hx2 : x < l'.length := by omega
    have ee := a.e x (by omega)
    have ec := a.cont (x := x) (by omega)
    have h0 : x + 2 ≤ l.length := by omega
    rw [blankL_eq l' x, blankL_eq l x, if_pos hx1, if_pos hx2, ← ee, ec]
    rw [blankL_eq l x, if_pos hx1] at h
    split
    · rename_i hb
      rw [if_pos hb] at h
      exact ih (l.length - (x + 1)) (by omega) (x + 1) rfl (by omega) h
    · rename_i hb
      rw [if_neg hb] at h
      split
      · rename_i hc
        rw [if_pos hc] at h
        exact ih (l.length - (x + 2)) (by omega) (x + 2) rfl (by omega) h
      · rfl
theorem Ag.op {n : Nat} {l l' : List UInt8} (a : Ag n l l') {x : Nat} (h : x + 3 ≤ n) : opAt l' x = opAt l x := by
  have h1 := a.h
  have h2 := a.h'
  unfold opAt
  rw [a.e x (by omega), show min 3 (l.length - x) = 3 by omega, show min 3 (l'.length - x) = 3 by omega, ← opN_take _ 3 3 (Nat.le_refl _), ← opN_take (l.drop x) 3 3 (Nat.le_refl _)]
  have e : (l.drop x).take 3 = (l'.drop x).take 3 := by
    rw [← sub_take' l x 3 (by omega), ← sub_take' l' x 3 (by omega)]
    exact a.sub h
  rw [e]
theorem rAt_congr {l l' : List UInt8} : ∀ (k : Nat), (∀ i, i < k → l.getD i 0 = l'.getD i 0) → rAt l k = rAt l' k
  | 0, _ => rfl
  | k + 1, h => by
    show rStep (rAt l k).1 (rAt l k).2 (l.getD k 0) k = rStep (rAt l' k).1 (rAt l' k).2 (l'.getD k 0) k
    rw [rAt_congr k (fun i hi => h i (by omega)), h k (by omega)]
theorem Ag.stop {n : Nat} {l l' : List UInt8} (a : Ag n l l') {x j : Nat} (h : x + j < n) : endStop l' x j = endStop l x j := by
  unfold endStop
  rw [a.e _ h, rAt_congr (l := l'.drop x) (l' := l.drop x) j (fun i hi => by rw [getD_drop, getD_drop, a.e _ (by omega)])]
theorem endF_spec (s : Nat → Bool) : ∀ (m k : Nat), k ≤ endF s m k ∧ endF s m k ≤ k + m ∧ (∀ j, k ≤ j → j < endF s m k → s j = false) ∧ (endF s m k < k + m → s (endF s m k) = true)
  | 0, k => ⟨Nat.le_refl _, Nat.le_refl _, fun j h1 h2 => by simp only [endF] at h2; omega, fun h => by simp only [endF] at h; omega⟩
  | m + 1, k => by
    unfold endF
    by_cases hs : s k = true
    · rw [if_pos hs]
      exact ⟨Nat.le_refl _, by omega, fun j h1 h2 => by omega, fun _ => hs⟩
    · rw [if_neg hs]
      obtain ⟨h1, h2, h3, h4⟩ := endF_spec s m (k + 1)
      refine ⟨by omega, by omega, fun j h5 h6 => ?_, fun h => h4 (by omega)⟩
      by_cases e : j = k
      · subst e; simpa using hs
      · exact h3 j (by omega) h6
theorem endF_uniq (s : Nat → Bool) (m k e : Nat) (h1 : k ≤ e) (h2 : e < k + m) (h3 : ∀ j, k ≤ j → j < e → s j = false) (h4 : s e = true) : endF s m k = e := by
  obtain ⟨a1, a2, a3, a4⟩ := endF_spec s m k
  have b1 : ¬ endF s m k < e := fun h => by have := h3 _ a1 h; rw [a4 (by omega)] at this; cases this
  have b2 : ¬ e < endF s m k := fun h => by have := a3 _ h1 h; rw [h4] at this; cases this
  omega
theorem endL_le (l : List UInt8) (x : Nat) : endL l x ≤ l.length - x := by
  have := (endF_spec (endStop l x) (l.length - x) 0).2.1
  unfold endL
  omega
theorem Ag.word {n : Nat} {l l' : List UInt8} (a : Ag n l l') {x : Nat} (h : x + endL l x < n) : endL l' x = endL l x := by
  have h1 := a.h
  have h2 := a.h'
  obtain ⟨a1, a2, a3, a4⟩ := endF_spec (endStop l x) (l.length - x) 0
  have e : endF (endStop l x) (l.length - x) 0 = endL l x := rfl
  rw [e] at a1 a2 a3 a4
  refine endF_uniq _ _ _ _ (by omega) (by omega) (fun j hj hj2 => ?_) ?_
  · rw [a.stop (by omega)]; exact a3 j hj hj2
  · rw [a.stop h]; exact a4 (by omega)
theorem dig_ends (c : UInt8) (h : digB c = true) : endsB c = false := by
  have := byte_all (fun c => !digB c || !endsB c) (by decide +kernel) c
  simpa [h] using this
/-- A word is at least as long as the digits at its beginning. -/
theorem dig_word (l : List UInt8) (x : Nat) : digN l x ≤ endL l x := by
  obtain ⟨a1, a2, a3, a4⟩ := endF_spec (endStop l x) (l.length - x) 0
  have e : endF (endStop l x) (l.length - x) 0 = endL l x := rfl
  rw [e] at a1 a2 a3 a4
  refine Nat.le_of_not_lt fun h => ?_
  have h1 : digN l x ≤ l.length - x := spanL_le digB l x
  have h2 := a4 (by omega)
  have h3 := dig_ends _ (span_all digB l x _ h)
  unfold endStop endB at h2
  rw [h3] at h2
  simp at h2
theorem Ag.num {n : Nat} {l l' : List UInt8} (a : Ag n l l') {x : Nat} (h : x + digN l x < n) : numB l' x = numB l x := by
  have h1 := a.h
  have h2 := a.h'
  have hs : digN l' x = digN l x := a.span h
  unfold numB
  rw [hs, a.e _ h, decide_eq_true (show x + digN l x < l.length by omega), decide_eq_true (show x + digN l x < l'.length by omega)]
/-! A token is not empty. -/
theorem noends_word (l : List UInt8) (x : Nat) (hx : x < l.length) (h : endsB (l.getD x 0) = false) : 0 < endL l x := by
  obtain ⟨a1, a2, a3, a4⟩ := endF_spec (endStop l x) (l.length - x) 0
  have e : endF (endStop l x) (l.length - x) 0 = endL l x := rfl
  rw [e] at a1 a2 a3 a4
  refine Nat.pos_of_ne_zero fun h0 => ?_
  rw [h0] at a4
  have := a4 (by omega)
  unfold endStop endB at this
  rw [Nat.add_zero, h] at this
  simp at this
theorem ends_or (c : UInt8) (h : endsB c = true) : blankB c = true ∨ c.toNat = 10 ∨ clsOf c = 3 := by
  have := byte_all (fun c => !endsB c || (blankB c || c.toNat == 10 || clsOf c == 3)) (by decide +kernel) c
  simpa [h, or_assoc] using this
theorem plainL_to (l : List UInt8) (x : Nat) (hx : x < l.length) : (plainL l x).fr = x ∧ x < (plainL l x).to ∧ (plainL l x).to ≤ l.length ∧ 1 ≤ (plainL l x).kd ∧ (plainL l x).kd ≤ 6 := by
  unfold plainL
  split
  · rename_i h
    have h1 := (blankL_gt l x hx).2 h
    have h2 := blankL_le l _ x rfl (by omega)
    exact ⟨rfl, h1, h2.2, (by decide : 1 ≤ 1), (by decide : 1 ≤ 6)⟩
  · rename_i h
    split
    · exact ⟨rfl, Nat.lt_succ_self _, hx, (by decide : 1 ≤ 2), (by decide : 2 ≤ 6)⟩
    · rename_i h10
      split
      · rename_i h35
        have h1 := lineN_le l x (by omega)
        refine ⟨rfl, ?_, h1.2, (by decide : 1 ≤ 3), (by decide : 3 ≤ 6)⟩
        show x < lineN l x
        have : ((l.drop x).takeWhile fun c => c.toNat != 10).length ≠ 0 := by
          rw [List.drop_eq_getElem_cons hx, List.takeWhile_cons, if_pos]
          · simp
          · rw [List.getD_eq_getElem?_getD, List.getElem?_eq_getElem hx] at h35
            have h35 : (l[x]).toNat = 35 := h35
            rw [h35]; rfl
        unfold lineN
        omega
      · split
        · rename_i hop
          refine ⟨rfl, ?_, ?_, (by decide : 1 ≤ 4), (by decide : 4 ≤ 6)⟩
          · show x < x + _; omega
          · show x + (opAt l x).2 ≤ l.length
            have : ∀ (d : List UInt8) (n : Nat), (opN d n).2 ≤ n := by
              intro d n
              induction n with
              | zero => exact Nat.le_refl _
              | succ n ih => unfold opN; split; exact Nat.le_refl _; omega
            unfold opAt
            split
            · simp; omega
            · have := this (l.drop x) (min 3 (l.length - x)); omega
        · rename_i hop
          split
          · rename_i hn
            unfold numB at hn
            simp at hn
            exact ⟨rfl, by show x < x + _; omega, by show x + _ ≤ _; omega, (by decide : 1 ≤ 5), (by decide : 5 ≤ 6)⟩
          · rename_i hn
            have he : endsB (l.getD x 0) = false := by
              cases h2 : endsB (l.getD x 0)
              · rfl
              · exfalso
                rcases ends_or _ h2 with h3 | h3 | h3
                · exact h (.inl h3)
                · exact h10 h3
                · exact hop ((op_same l x hx).2.2.2 h3)
            have h1 := noends_word l x hx he
            have h2 := endL_le l x
            exact ⟨rfl, by show x < x + _; omega, by show x + _ ≤ _; omega, (by decide : 1 ≤ 6), (by decide : 6 ≤ 6)⟩
theorem docL_to (l : List UInt8) (x : Nat) (hx : x < l.length) (X : Lx) (d : Dl) (r : List Dl) : (docL l x X d r).1.fr = x ∧ x < (docL l x X d r).1.to ∧ (docL l x X d r).1.to ≤ l.length ∧ (docL l x X d r).1.kd = 7 := by
  have h := hereL_le l d.1 d.2 _ x rfl hx
  unfold docL
  split
  · exact ⟨rfl, h.1, h.2.1, rfl⟩
  · exact ⟨rfl, h.1, h.2.1, rfl⟩
theorem stepL_to (l : List UInt8) (x : Nat) (hx : x < l.length) (X : Lx) : (stepL l x X).1.fr = x ∧ x < (stepL l x X).1.to ∧ (stepL l x X).1.to ≤ l.length ∧ 1 ≤ (stepL l x X).1.kd ∧ (stepL l x X).1.kd ≤ 7 := by
  have hp := plainL_to l x hx
  unfold stepL
  split
  · rename_i d r _ _
    have := docL_to l x hx X d r
    exact ⟨this.1, this.2.1, this.2.2.1, by omega, by omega⟩
  · exact ⟨hp.1, hp.2.1, hp.2.2.1, hp.2.2.2.1, by have := hp.2.2.2.2; show (plainL l x).kd ≤ 7; omega⟩
/-! The law. -/
theorem Ag.plain {n : Nat} {l l' : List UInt8} (a : Ag n l l') {x : Nat} (hx : x < l.length) (h : (plainL l x).to + 2 ≤ n) : plainL l' x = plainL l x := by
  have h1 := a.h
  have h2 := a.h'
  have hto := plainL_to l x hx
  have ee := a.e x (by omega)
  have ec := a.cont (x := x) (by omega)
  have eo := a.op (x := x) (by omega)
  unfold plainL at h
  unfold plainL
  rw [← ee, ec, eo]
  split
  · rename_i hb
    rw [if_pos hb] at h
    rw [a.blank _ x rfl (by omega) h]
  · rename_i hb
    rw [if_neg hb] at h
    split
    · rfl
    · rename_i h10
      rw [if_neg h10] at h
      split
      · rename_i h35
        rw [if_pos h35] at h
        have h : lineN l x + 2 ≤ n := h
        rw [a.line (by omega)]
      · rename_i h35
        rw [if_neg h35] at h
        split
        · rfl
        · rename_i hop
          rw [if_neg hop] at h
          by_cases hn : numB l x = true
          · rw [if_pos hn] at h
            have h : x + digN l x + 2 ≤ n := h
            have hs : digN l' x = digN l x := a.span (by show x + digN l x < n; omega)
            rw [a.num (by omega), if_pos hn, if_pos hn, hs]
          · rw [if_neg hn] at h
            have h : x + endL l x + 2 ≤ n := h
            have hd := dig_word l x
            rw [a.num (by omega), if_neg hn, if_neg hn, a.word (by omega), ← a.sub (by omega)]
theorem Ag.step {n : Nat} {l l' : List UInt8} (a : Ag n l l') {x : Nat} (hx : x < l.length) (X : Lx) (h : (stepL l x X).1.to + 2 ≤ n) : stepL l' x X = stepL l x X := by
  unfold stepL at h ⊢
  split
  · rename_i d r hb hp
    rw [hb, hp] at h
    have hh : (hereL l x d.1 d.2).1 + 2 ≤ n := by
      simp only [docL] at h
      split at h <;> exact h
    unfold docL
    rw [a.here d.1 d.2 _ x rfl hx (by omega)]
  · rename_i hne
    have h : (plainL l x).to + 2 ≤ n := by
      split at h
      · rename_i d r hb hp; exact absurd hp (fun hp => hne d r hb hp)
      · exact h
    rw [a.plain hx h, ← a.sub (by omega)]
/-! Lexing. -/
theorem lexF_fuel (l : List UInt8) : ∀ (m m' x : Nat) (X : Lx), l.length < m + x → l.length < m' + x → lexF l m x X = lexF l m' x X
  | 0, m', x, X, h, h' => by
    cases m' with
    | zero => rfl
    | succ m' => unfold lexF; rw [if_neg (by omega)]
  | m + 1, 0, x, X, h, h' => by unfold lexF; rw [if_neg (by omega)]
  | m + 1, m' + 1, x, X, h, h' => by
    unfold lexF
    by_cases hx : x < l.length
    · have := stepL_to l x hx X
      rw [if_pos hx, if_pos hx, lexF_fuel l m m' _ _ (by omega) (by omega)]
    · rw [if_neg hx, if_neg hx]
/-- The tokens from a place on. -/
def lexA (l : List UInt8) (x : Nat) (X : Lx) : List Tk × Lx := lexF l (l.length + 1 - x) x X
theorem lexA_eq (l : List UInt8) (x : Nat) (X : Lx) : lexA l x X = if x < l.length then ((stepL l x X).1 :: (lexA l (stepL l x X).1.to (stepL l x X).2).1, (lexA l (stepL l x X).1.to (stepL l x X).2).2) else ([], X) := by
  unfold lexA
  by_cases hx : x < l.length
  · obtain ⟨m, hm⟩ : ∃ m, l.length + 1 - x = m + 1 := ⟨l.length - x, by omega⟩
    have := stepL_to l x hx X
    rw [hm]
    show (if x < l.length then _ else _) = _
    rw [if_pos hx, if_pos hx, lexF_fuel l m (l.length + 1 - (stepL l x X).1.to) (stepL l x X).1.to (stepL l x X).2 (by omega) (by omega)]
  · rw [if_neg hx]
    by_cases h0 : l.length + 1 - x = 0
    · rw [h0]; rfl
    · obtain ⟨m, hm⟩ : ∃ m, l.length + 1 - x = m + 1 := ⟨l.length + 1 - x - 1, by omega⟩
      rw [hm]
      show (if x < l.length then _ else _) = _
      rw [if_neg hx]
theorem lexL_A (l : List UInt8) : lexL l = lexA l 0 lx0 := rfl
theorem lex_ahead {n : Nat} {l l' : List UInt8} (a : Ag n l l') : ∀ (i x : Nat) (X : Lx) (t : Tk), (lexA l x X).1[i]? = some t → t.to + 2 ≤ n → x ≤ l'.length → (lexA l' x X).1[i]? = some t ∧ x < t.to
  | i, x, X, t, hi, ht, hx' => by
    have h1 := a.h
    have h2 := a.h'
    have hx : x < l.length := by
      refine Nat.lt_of_not_le fun h => ?_
      rw [lexA_eq, if_neg (by omega)] at hi
      simp at hi
    have hto := stepL_to l x hx X
    rw [lexA_eq, if_pos hx] at hi
    cases i with
    | zero =>
      simp only [List.getElem?_cons_zero, Option.some.injEq] at hi
      subst hi
      have hs := a.step hx X ht
      rw [lexA_eq, if_pos (by omega), hs]
      exact ⟨rfl, hto.2.1⟩
    | succ i =>
      simp only [List.getElem?_cons_succ] at hi
      have key : (stepL l x X).1.to < t.to := by
        -- the token behind ends behind
        have : ∀ (i x : Nat) (X : Lx) (t : Tk), (lexA l x X).1[i]? = some t → x < t.to := by
          intro i
          induction i with
          | zero =>
            intro x X t hi
            by_cases hx : x < l.length
            · rw [lexA_eq, if_pos hx] at hi
              simp only [List.getElem?_cons_zero, Option.some.injEq] at hi
              subst hi
              exact (stepL_to l x hx X).2.1
            · rw [lexA_eq, if_neg hx] at hi; simp at hi
          | succ i ih =>
            intro x X t hi
            by_cases hx : x < l.length
            · rw [lexA_eq, if_pos hx] at hi
              simp only [List.getElem?_cons_succ] at hi
              have := ih _ _ _ hi
              have := (stepL_to l x hx X).2.1
              omega
            · rw [lexA_eq, if_neg hx] at hi; simp at hi
        exact this i _ _ _ hi
      have hs := a.step hx X (by omega)
      obtain ⟨r1, r2⟩ := lex_ahead a i _ _ t hi ht (by omega)
      rw [lexA_eq, if_pos (by omega), hs]
      exact ⟨by simpa using r1, by omega⟩
end Go.Proofs.YtffngggdelmkpaaGreatDoor
